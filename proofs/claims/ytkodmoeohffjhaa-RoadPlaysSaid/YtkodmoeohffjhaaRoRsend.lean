/- The document's Send walked. -/
import Derived.Test.YtkodmoeohffjhaaRoWith
namespace Go.Proofs.Ytkodmoeohffjhaa
open Go.RowKit Go.Proofs.Ytkodmoeohffjhaa.Hp
set_option linter.unusedVariables false
set_option linter.unusedSimpArgs false

/-- What a call of the document's road answers beside a value. -/
def RAns2 (r : Value) (now put : Int) (F : List MD) (T : Nat → Prop) (w : World) (e : Ending) (w' : World) : Prop :=
  ∃ A c, e = .returned (.tuple #[r, refV now put A F.length c]) ∧ RefF F (Plus T w w') A c w' ∧ Below w.heap.size w w'
theorem rsame {r : Value} {now put : Int} {F : List MD} {T : Nat → Prop} {A : Option Addr} {n c : Nat} {w w' : World} (h : RefF F T A c w) (hn : n = F.length) (hb : Below w.heap.size w w') :
    RAns2 r now put F T w (.returned (.tuple #[r, refV now put A n c])) w' :=
  ⟨A, c, by rw [hn], (h.under hb).mono (fun b hb' => .inl hb') (fun b hb' => by
    rcases hb' with x | x
    · have := h.lt b x; have := hb.size; omega
    · exact x.2), hb⟩
/-- The stores of a road into a box of the call. -/
theorem below_three {n : Nat} {w w' : World} {b : Nat} (h : Below n w w') (hb : n ≤ b) (x y z : Value) : Below n w (((w'.setCell ⟨b, 0, none⟩ x).setCell ⟨b, 1, none⟩ y).setCell ⟨b, 2, none⟩ z) :=
  ((h.setCell (p := ⟨b, 0, none⟩) hb _).setCell (p := ⟨b, 1, none⟩) hb _).setCell (p := ⟨b, 2, none⟩) hb _
/-- The list of a call, behind stores into the boxes of the caller. -/
theorem rmoved {r : Value} {now put : Int} {F : List MD} {T : Nat → Prop} {A : Option Addr} {c : Nat} {w w3 w4 w' : World} (hf : RefF F (Plus T w3 w4) A c w4) (hT : ∀ b, T b → b < w.heap.size) (hb3 : Below w.heap.size w w3) (hb4 : Below w3.heap.size w3 w4) (k : Keeps (fun b => w.heap.size ≤ b ∧ b < w3.heap.size) w4 w') :
    RAns2 r now put F T w (.returned (.tuple #[r, refV now put A F.length c])) w' := by
  have hz3 := hb3.size
  have hz4 := hb4.size
  have hz := k.size
  have hb := hb3.trans (hb4.mono hz3)
  refine ⟨A, c, rfl, ((hf.keeps k (fun b hb' e => ?_)).mono (fun b hb' => ?_) (fun b hb' => ?_)), Keeps.below hb k hb.size (fun b e => e.1)⟩
  · rcases hb' with x | x
    · have := hT b x; omega
    · omega
  · rcases hb' with x | x
    · exact .inl x
    · exact .inr ⟨by omega, by omega⟩
  · rcases hb' with x | x
    · have := hT b x; omega
    · exact x.2
theorem keeps_three {S : Nat → Prop} {w w' : World} (h : Keeps S w w') (b : Nat) (hb : S b) (x y z : Value) : Keeps S w (((w'.setCell ⟨b, 0, none⟩ x).setCell ⟨b, 1, none⟩ y).setCell ⟨b, 2, none⟩ z) :=
  ((h.setCell (p := ⟨b, 0, none⟩) (.inl hb) _).setCell (p := ⟨b, 1, none⟩) (.inl hb) _).setCell (p := ⟨b, 2, none⟩) (.inl hb) _
/-- A road put into its box, with one more put. -/
theorem put_box {w4 w5 : World} {b : Nat} {t : TypeId} {x0 x1 x2 u0 u1 u2 p : Value} (h : Blk w4 b t #[x0, x1, x2]) (hw : w5 = (((w4.setCell ⟨b, 0, none⟩ u0).setCell ⟨b, 1, none⟩ u1).setCell ⟨b, 2, none⟩ u2).setCell ⟨b, 1, none⟩ p) :
    Blk w5 b t #[u0, p, u2] ∧ Keeps (fun g => g = b) w4 w5 ∧ w5.heap.size = w4.heap.size ∧ ∀ g t' cs, Blk w4 g t' cs → g ≠ b → Blk w5 g t' cs := by
  subst hw
  refine ⟨(((h.set_ 0 u0).set_ 1 u1).set_ 2 u2).set_ 1 p, ((((Keeps.refl (fun g => g = b) w4).setCell (p := ⟨b, 0, none⟩) (.inl rfl) _).setCell (p := ⟨b, 1, none⟩) (.inl rfl) _).setCell (p := ⟨b, 2, none⟩) (.inl rfl) _).setCell (p := ⟨b, 1, none⟩) (.inl rfl) _, by simp, fun g t' cs hg hne => ?_⟩
  exact (((hg.far (p := ⟨b, 0, none⟩) (fun e => hne e) _).far (p := ⟨b, 1, none⟩) (fun e => hne e) _).far (p := ⟨b, 2, none⟩) (fun e => hne e) _).far (p := ⟨b, 1, none⟩) (fun e => hne e) _
set_option maxHeartbeats 1000000 in
set_option maxRecDepth 100000 in
theorem rsend_bad (now put addr : Int) (down : Bool) (A : Option Addr) (n c : Nat) (B : Option Addr) (nb cb : Nat) (d : Int) (F : List MD) (T : Nat → Prop) (w : World) (hF : RefF F T A c w) (hn : n = F.length) (hb : sendB addr d nb = false) (hnb : nb ≤ 9223372036854775807) :
    Calls Try.prog 18 #[refV now put A n c, gramV addr down B nb cb, .int .i64 d] w (RAns2 (.int .i64 1) now put F T w) := by
  obtain ⟨w3, hw3⟩ : ∃ w3, w3 = ((w.alloc (.cells #[.int .i64 now, .int .i64 put, .slice A n c] 48)).alloc (.cells #[.int .i64 addr, .bool down, .slice B nb cb] 32)).alloc (.cells #[.int .i64 0, .int .i64 0, .slice none 0 0] 48) := ⟨_, rfl⟩
  obtain ⟨hb3, hz3, x3, x4, x7⟩ := three_blk hw3
  have HF := Lib.hid hF
  have HN := Lib.hid hn
  have HW := Lib.hid hw3
  have HB3 := Lib.hid hb3
  have a0 : w3.cell? ⟨w.heap.size, 0, none⟩ = some (.int .i64 now) := x3.cell 0
  have a1 : w3.cell? ⟨w.heap.size, 1, none⟩ = some (.int .i64 put) := x3.cell 1
  have a2 : w3.cell? ⟨w.heap.size, 2, none⟩ = some (.slice A n c) := x3.cell 2
  have m0 : w3.cell? ⟨w.heap.size + 1, 0, none⟩ = some (.int .i64 addr) := x4.cell 0
  have m2 : w3.cell? ⟨w.heap.size + 1, 2, none⟩ = some (.slice B nb cb) := x4.cell 2
  have e0 : w3.cell? ⟨w.heap.size + 1 + 1, 0, none⟩ = some (.int .i64 0) := x7.cell 0
  have e1 : w3.cell? ⟨w.heap.size + 1 + 1, 1, none⟩ = some (.int .i64 0) := x7.cell 1
  have e2 : w3.cell? ⟨w.heap.size + 1 + 1, 2, none⟩ = some (.slice none 0 0) := x7.cell 2
  have f0 : w3.frozen? ⟨w.heap.size + 1 + 1, 0, none⟩ = false := x7.frozen 0
  have f1 : w3.frozen? ⟨w.heap.size + 1 + 1, 1, none⟩ = false := x7.frozen 1
  have f2 : w3.frozen? ⟨w.heap.size + 1 + 1, 2, none⟩ = false := x7.frozen 2
  have h : d < 1 ∨ (decide (d < 1) = false ∧ 64 < d) ∨ (decide (d < 1) = false ∧ decide (64 < d) = false ∧ 542 < (nb : Int)) ∨ (decide (d < 1) = false ∧ decide (64 < d) = false ∧ decide (542 < (nb : Int)) = false ∧ addr < 0) ∨ (decide (d < 1) = false ∧ decide (64 < d) = false ∧ decide (542 < (nb : Int)) = false ∧ decide (addr < 0) = false ∧ 255 < addr) := by
    simp only [decide_eq_false_iff_not]
    simp [sendB] at hb
    omega
  clear hF hn hw3 hb3 x3 x4 x7 hb
  have hlt : w.heap.size + 1 + 1 < w3.heap.size := by omega
  rcases h with t1 | ⟨t1, t2⟩ | ⟨t1, t2, t3⟩ | ⟨t1, t2, t3, t4⟩ | ⟨t1, t2, t3, t4, t5⟩
  all_goals
    go_enter Try.func18, Try.ntmps18
    go_upto_region 1 with (fail)
    rw [← HW.out]
    go_wp2_with fail
    go_region
    go_wp2_with fail
    refine bodyPost_ret (v := .tuple #[.int .i64 1, refV now put A n c]) (by simp [results, Try.results18, go_sem, e0, e1, e2]) rfl (rsame HF.out HN.out ?_)
    exact below_drew (below_three HB3.out (by omega) _ _ _)
set_option maxHeartbeats 1000000 in
set_option maxRecDepth 100000 in
theorem rsend_ok (now put addr : Int) (down : Bool) (A : Option Addr) (n c : Nat) (B : Option Addr) (nb cb : Nat) (bs : List Int) (d : Int) (F : List MD) (T : Nat → Prop) (w : World) (hF : RefF F T A c w) (hn : n = F.length) (hl : n ≤ 4000) (hb : sendB addr d nb = true) (hr : ReadI w .u8 B bs) (hnb : nb = bs.length) (hp : 0 ≤ now ∧ now < 1000000 ∧ 0 ≤ put ∧ put < 1000000) :
    Calls Try.prog 18 #[refV now put A n c, gramV addr down B nb cb, .int .i64 d] w (RAns2 (.int .i64 0) now (put + 1) (insB ⟨now + d, put, addr, down, bs⟩ F) T w) := by
  obtain ⟨w3, hw3⟩ : ∃ w3, w3 = ((w.alloc (.cells #[.int .i64 now, .int .i64 put, .slice A n c] 48)).alloc (.cells #[.int .i64 addr, .bool down, .slice B nb cb] 32)).alloc (.cells #[.int .i64 0, .int .i64 0, .slice none 0 0] 48) := ⟨_, rfl⟩
  obtain ⟨hb3, hz3, x3, x4, x7⟩ := three_blk hw3
  obtain ⟨d1, d2, d3, d4, d5⟩ := send_parts hb
  obtain ⟨p1, p2, p3, p4⟩ := hp
  have HTL := Lib.hid hF.lt
  have HF := Lib.hid (hF.under hb3)
  have HN := Lib.hid hn
  have HR := Lib.hid (hr.under hb3)
  have HNB := Lib.hid hnb
  have HW := Lib.hid hw3
  have HB3 := Lib.hid hb3
  have HX3 := Lib.hid x3
  have HX7 := Lib.hid x7
  have a0 : w3.cell? ⟨w.heap.size, 0, none⟩ = some (.int .i64 now) := x3.cell 0
  have a1 : w3.cell? ⟨w.heap.size, 1, none⟩ = some (.int .i64 put) := x3.cell 1
  have a2 : w3.cell? ⟨w.heap.size, 2, none⟩ = some (.slice A n c) := x3.cell 2
  have m0 : w3.cell? ⟨w.heap.size + 1, 0, none⟩ = some (.int .i64 addr) := x4.cell 0
  have m1 : w3.cell? ⟨w.heap.size + 1, 1, none⟩ = some (.bool down) := x4.cell 1
  have m2 : w3.cell? ⟨w.heap.size + 1, 2, none⟩ = some (.slice B nb cb) := x4.cell 2
  have t1 : decide (d < 1) = false := decide_eq_false (by omega)
  have t2 : decide (64 < d) = false := decide_eq_false (by omega)
  have t3 : decide (542 < (nb : Int)) = false := decide_eq_false (by omega)
  have t4 : decide (addr < 0) = false := decide_eq_false (by omega)
  have t5 : decide (255 < addr) = false := decide_eq_false (by omega)
  have t6 : decide (4096 ≤ (n : Int)) = false := decide_eq_false (by omega)
  clear hF hn hr hnb hw3 hb3 x3 x4 x7 hb
  have hlt : w.heap.size + 1 + 1 < w3.heap.size := by omega
  go_enter Try.func18, Try.ntmps18
  go_upto_region 1 with (fail)
  rw [← HW.out]
  go_wp2_with (go_at_call 31; refine (radd_any now put (now + d) put addr down A n c B nb cb bs F T w3 HF.out HN.out (by omega) HR.out HNB.out (by omega)).mono ?_; rintro e w4 ⟨A4, c4, rfl, hf4, hb4⟩; have HF4 := Lib.hid hf4; have HB4 := Lib.hid hb4; have x4 := HX3.out.under hb4; have y4 := HX7.out.under hb4; have hz4 := hb4.size; have b0 : w4.cell? ⟨w.heap.size, 0, none⟩ = some (.int .i64 now) := x4.cell 0; have bf0 : w4.frozen? ⟨w.heap.size, 0, none⟩ = false := x4.frozen 0; have b1 : w4.cell? ⟨w.heap.size, 1, none⟩ = some (.int .i64 put) := x4.cell 1; have bf1 : w4.frozen? ⟨w.heap.size, 1, none⟩ = false := x4.frozen 1; have b2 : w4.cell? ⟨w.heap.size, 2, none⟩ = some (.slice A n c) := x4.cell 2; have bf2 : w4.frozen? ⟨w.heap.size, 2, none⟩ = false := x4.frozen 2; have e0 : w4.cell? ⟨w.heap.size + 1 + 1, 0, none⟩ = some (.int .i64 0) := y4.cell 0; have ef0 : w4.frozen? ⟨w.heap.size + 1 + 1, 0, none⟩ = false := y4.frozen 0; have e1 : w4.cell? ⟨w.heap.size + 1 + 1, 1, none⟩ = some (.int .i64 0) := y4.cell 1; have ef1 : w4.frozen? ⟨w.heap.size + 1 + 1, 1, none⟩ = false := y4.frozen 1; have e2 : w4.cell? ⟨w.heap.size + 1 + 1, 2, none⟩ = some (.slice none 0 0) := y4.cell 2; have ef2 : w4.frozen? ⟨w.heap.size + 1 + 1, 2, none⟩ = false := y4.frozen 2; clear x4 y4 hf4 hb4)
  have hlt4 : w.heap.size + 1 + 1 < w4.heap.size := by omega
  obtain ⟨w5, hw5⟩ : ∃ w5, w5 = (((w4.setCell ⟨w.heap.size, 0, none⟩ (.int .i64 now)).setCell ⟨w.heap.size, 1, none⟩ (.int .i64 put)).setCell ⟨w.heap.size, 2, none⟩ (.slice A4 (insB ⟨now + d, put, addr, down, bs⟩ F).length c4)).setCell ⟨w.heap.size, 1, none⟩ (.int .i64 (put + 1)) := ⟨_, rfl⟩
  rw [← hw5]
  obtain ⟨hX5, k5, hz5, hfar⟩ := put_box (HX3.out.under HB4.out) hw5
  have hY5 := hfar _ _ _ (HX7.out.under HB4.out) (by omega)
  have HK5 := Lib.hid k5
  clear b0 b1 b2 bf0 bf1 bf2 e0 e1 e2 ef0 ef1 ef2 hw5 k5 hfar
  have b0 : w5.cell? ⟨w.heap.size, 0, none⟩ = some (.int .i64 now) := hX5.cell 0
  have bf0 : w5.frozen? ⟨w.heap.size, 0, none⟩ = false := hX5.frozen 0
  have b1 : w5.cell? ⟨w.heap.size, 1, none⟩ = some (.int .i64 (put + 1)) := hX5.cell 1
  have bf1 : w5.frozen? ⟨w.heap.size, 1, none⟩ = false := hX5.frozen 1
  have b2 : w5.cell? ⟨w.heap.size, 2, none⟩ = some (.slice A4 (insB ⟨now + d, put, addr, down, bs⟩ F).length c4) := hX5.cell 2
  have bf2 : w5.frozen? ⟨w.heap.size, 2, none⟩ = false := hX5.frozen 2
  have e0 : w5.cell? ⟨w.heap.size + 1 + 1, 0, none⟩ = some (.int .i64 0) := hY5.cell 0
  have ef0 : w5.frozen? ⟨w.heap.size + 1 + 1, 0, none⟩ = false := hY5.frozen 0
  have e1 : w5.cell? ⟨w.heap.size + 1 + 1, 1, none⟩ = some (.int .i64 0) := hY5.cell 1
  have ef1 : w5.frozen? ⟨w.heap.size + 1 + 1, 1, none⟩ = false := hY5.frozen 1
  have e2 : w5.cell? ⟨w.heap.size + 1 + 1, 2, none⟩ = some (.slice none 0 0) := hY5.cell 2
  have ef2 : w5.frozen? ⟨w.heap.size + 1 + 1, 2, none⟩ = false := hY5.frozen 2
  clear hX5 hY5
  go_region
  go_wp2_with fail
  refine bodyPost_ret (v := .tuple #[.int .i64 0, refV now (put + 1) A4 (insB ⟨now + d, put, addr, down, bs⟩ F).length c4]) (by simp [results, Try.results18, go_sem, e0, e1, e2]) rfl (rmoved HF4.out HTL.out HB3.out HB4.out ?_)
  exact (keeps_three (HK5.out.mono (fun b e => ⟨by omega, by omega⟩)) (w.heap.size + 1 + 1) ⟨by omega, by omega⟩ _ _ _).drew
end Go.Proofs.Ytkodmoeohffjhaa
