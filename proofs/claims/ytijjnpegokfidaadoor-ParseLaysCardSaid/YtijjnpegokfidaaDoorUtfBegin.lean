/- The walk of utf's begin. -/
import Derived.Test.YtijjnpegokfidaaDoorUtfMath
import Derived.Test.YtijjnpegokfidaaDoorMem
import Derived.WalkKit
import Derived.WalkSpells
import Derived.BigQuiet
import Derived.BigGuardPart
import Derived.Deep.QuietTactic
import Derived.Outline
import Derived.Lib.Hide
namespace Go.Proofs.YtijjnpegokfidaaDoor
open Go.RowKit
open Utf (DS)
set_option linter.unusedVariables false
set_option linter.unusedSimpArgs false

/-- A decoder in memory: block g. -/
def Dec (w : World) (g : Nat) (s : DS) : Prop := Blk w g 57 #[.int .i64 s.need, .int .i32 s.n, .int .u8 s.lo, .int .u8 s.hi]
/-- What a call on a decoder leaves: runes that are the call's own, the decoder turned, nothing else. -/
def Fed (w : World) (g : Nat) (r : List Int × DS) (e : Ending) (w' : World) : Prop :=
  ∃ A c, e = .returned (.slice A r.1.length c) ∧ OwnI w' w.heap.size 21 .i32 (.slice A r.1.length c) r.1 ∧ Dec w' g r.2 ∧ w.grownBy w' (some g)
theorem fed_nil {w w' : World} {g : Nat} {r : List Int × DS} {s : DS} (hr : r = ([], s)) (hd : Dec w' g s) (hg : w.grownBy w' (some g)) : Fed w g r (.returned (.slice none 0 0)) w' := by
  subst hr
  exact ⟨none, 0, rfl, OwnI.nil _ _ _ _, hd, hg⟩
theorem fed_one {w w1 w' : World} {g : Nat} {r : List Int × DS} {s : DS} {x : Int} {n : Nat} (hr : r = ([x], s)) (hn : n = w1.heap.size) (hw : w' = w1.alloc (.cells #[.int .i32 x] 21)) (hd : Dec w1 g s) (hg : w.grownBy w1 (some g)) :
    Fed w g r (.returned (.slice (some ⟨n, 0, none⟩) 1 1)) w' := by
  subst hr hw hn
  exact ⟨some ⟨w1.heap.size, 0, none⟩, 1, rfl, OwnI.lit w1 w.heap.size 21 .i32 [x] _ rfl hg.size (by simp [maxLen]), Blk.alloc hd _, only_alloc hg _⟩

theorem begin_lo (b : Int) (hb : 0 ≤ b ∧ b < 128) (w : World) (g : Nat) (s : DS) (hd : Dec w g s) :
    Calls Tryd.prog 36 #[.pointer (some ⟨g, 0, none⟩), .int .u8 b] w (Fed w g (Utf.begin_ b)) := by
  have e : Utf.begin_ b = ([b], ⟨0, 0, 128, 191⟩) := by
    unfold Utf.begin_ Utf.loOf Utf.hiOf; repeat' split
    all_goals first | rfl | (exfalso; omega)
  have E := Lib.hid e
  clear e
  obtain ⟨b0, b1⟩ := hb
  have t0 : decide (b < 128) = true := by simp; omega
  have t1 : decide (194 ≤ b) = false := by simp; omega
  have t2 : decide (b ≤ 223) = true := by simp; omega
  have t3 : decide (224 ≤ b) = false := by simp; omega
  have t4 : decide (b ≤ 239) = true := by simp; omega
  have t5 : decide (240 ≤ b) = false := by simp; omega
  have t6 : decide (b ≤ 244) = true := by simp; omega
  have u224 : (b == 224) = false := beq_eq_false_iff_ne.2 (by omega)
  have u237 : (b == 237) = false := beq_eq_false_iff_ne.2 (by omega)
  have u240 : (b == 240) = false := beq_eq_false_iff_ne.2 (by omega)
  have u244 : (b == 244) = false := beq_eq_false_iff_ne.2 (by omega)
  have c0 := hd.cell 0
  have c1 := hd.cell 1
  have c2 := hd.cell 2
  have c3 := hd.cell 3
  have f0 := hd.frozen 0
  have f1 := hd.frozen 1
  have f2 := hd.frozen 2
  have f3 := hd.frozen 3
  have hlt := hd.lt
  simp at c0 c1 c2 c3
  go_enter Tryd.func36, Tryd.ntmps36
  go_wp2
  go_ret
  have d0 : Blk w g 57 _ := hd
  have o0 := only_refl w (some g)
  have d1 := d0.s4_0 (.int .i64 0)
  have o1 := only_setCell (p := ⟨g, 0, none⟩) o0 (.inl rfl) (.int .i64 0)
  have d2 := d1.s4_1 (.int .i32 0)
  have o2 := only_setCell (p := ⟨g, 1, none⟩) o1 (.inl rfl) (.int .i32 0)
  have d3 := d2.s4_2 (.int .u8 128)
  have o3 := only_setCell (p := ⟨g, 2, none⟩) o2 (.inl rfl) (.int .u8 128)
  have d4 := d3.s4_3 (.int .u8 191)
  have o4 := only_setCell (p := ⟨g, 3, none⟩) o3 (.inl rfl) (.int .u8 191)
  exact fed_one E.out (by simp) rfl (show Dec _ g _ from d4) o4

theorem begin_mid (b : Int) (hb : 128 ≤ b ∧ b ≤ 193) (w : World) (g : Nat) (s : DS) (hd : Dec w g s) :
    Calls Tryd.prog 36 #[.pointer (some ⟨g, 0, none⟩), .int .u8 b] w (Fed w g (Utf.begin_ b)) := by
  have e : Utf.begin_ b = ([65533], ⟨0, 0, 128, 191⟩) := by
    unfold Utf.begin_ Utf.loOf Utf.hiOf; repeat' split
    all_goals first | rfl | (exfalso; omega)
  have E := Lib.hid e
  clear e
  obtain ⟨b0, b1⟩ := hb
  have t0 : decide (b < 128) = false := by simp; omega
  have t1 : decide (194 ≤ b) = false := by simp; omega
  have t2 : decide (b ≤ 223) = true := by simp; omega
  have t3 : decide (224 ≤ b) = false := by simp; omega
  have t4 : decide (b ≤ 239) = true := by simp; omega
  have t5 : decide (240 ≤ b) = false := by simp; omega
  have t6 : decide (b ≤ 244) = true := by simp; omega
  have u224 : (b == 224) = false := beq_eq_false_iff_ne.2 (by omega)
  have u237 : (b == 237) = false := beq_eq_false_iff_ne.2 (by omega)
  have u240 : (b == 240) = false := beq_eq_false_iff_ne.2 (by omega)
  have u244 : (b == 244) = false := beq_eq_false_iff_ne.2 (by omega)
  have c0 := hd.cell 0
  have c1 := hd.cell 1
  have c2 := hd.cell 2
  have c3 := hd.cell 3
  have f0 := hd.frozen 0
  have f1 := hd.frozen 1
  have f2 := hd.frozen 2
  have f3 := hd.frozen 3
  have hlt := hd.lt
  simp at c0 c1 c2 c3
  go_enter Tryd.func36, Tryd.ntmps36
  go_wp2
  go_ret
  have d0 : Blk w g 57 _ := hd
  have o0 := only_refl w (some g)
  have d1 := d0.s4_0 (.int .i64 0)
  have o1 := only_setCell (p := ⟨g, 0, none⟩) o0 (.inl rfl) (.int .i64 0)
  have d2 := d1.s4_1 (.int .i32 0)
  have o2 := only_setCell (p := ⟨g, 1, none⟩) o1 (.inl rfl) (.int .i32 0)
  have d3 := d2.s4_2 (.int .u8 128)
  have o3 := only_setCell (p := ⟨g, 2, none⟩) o2 (.inl rfl) (.int .u8 128)
  have d4 := d3.s4_3 (.int .u8 191)
  have o4 := only_setCell (p := ⟨g, 3, none⟩) o3 (.inl rfl) (.int .u8 191)
  exact fed_one E.out (by simp) rfl (show Dec _ g _ from d4) o4

theorem begin_two (b : Int) (hb : 194 ≤ b ∧ b ≤ 223) (w : World) (g : Nat) (s : DS) (hd : Dec w g s) :
    Calls Tryd.prog 36 #[.pointer (some ⟨g, 0, none⟩), .int .u8 b] w (Fed w g (Utf.begin_ b)) := by
  have e : Utf.begin_ b = ([], ⟨1, b % 32, 128, 191⟩) := by
    unfold Utf.begin_ Utf.loOf Utf.hiOf; repeat' split
    all_goals first | rfl | (exfalso; omega)
  have E := Lib.hid e
  clear e
  obtain ⟨b0, b1⟩ := hb
  have t0 : decide (b < 128) = false := by simp; omega
  have t1 : decide (194 ≤ b) = true := by simp; omega
  have t2 : decide (b ≤ 223) = true := by simp; omega
  have t3 : decide (224 ≤ b) = false := by simp; omega
  have t4 : decide (b ≤ 239) = true := by simp; omega
  have t5 : decide (240 ≤ b) = false := by simp; omega
  have t6 : decide (b ≤ 244) = true := by simp; omega
  have u224 : (b == 224) = false := beq_eq_false_iff_ne.2 (by omega)
  have u237 : (b == 237) = false := beq_eq_false_iff_ne.2 (by omega)
  have u240 : (b == 240) = false := beq_eq_false_iff_ne.2 (by omega)
  have u244 : (b == 244) = false := beq_eq_false_iff_ne.2 (by omega)
  have c0 := hd.cell 0
  have c1 := hd.cell 1
  have c2 := hd.cell 2
  have c3 := hd.cell 3
  have f0 := hd.frozen 0
  have f1 := hd.frozen 1
  have f2 := hd.frozen 2
  have f3 := hd.frozen 3
  have hlt := hd.lt
  simp at c0 c1 c2 c3
  go_enter Tryd.func36, Tryd.ntmps36
  go_wp2
  go_ret
  have d0 : Blk w g 57 _ := hd
  have o0 := only_refl w (some g)
  have d1 := d0.s4_0 (.int .i64 0)
  have o1 := only_setCell (p := ⟨g, 0, none⟩) o0 (.inl rfl) (.int .i64 0)
  have d2 := d1.s4_1 (.int .i32 0)
  have o2 := only_setCell (p := ⟨g, 1, none⟩) o1 (.inl rfl) (.int .i32 0)
  have d3 := d2.s4_2 (.int .u8 128)
  have o3 := only_setCell (p := ⟨g, 2, none⟩) o2 (.inl rfl) (.int .u8 128)
  have d4 := d3.s4_3 (.int .u8 191)
  have o4 := only_setCell (p := ⟨g, 3, none⟩) o3 (.inl rfl) (.int .u8 191)
  have d5 := d4.s4_0 (.int .i64 1)
  have o5 := only_setCell (p := ⟨g, 0, none⟩) o4 (.inl rfl) (.int .i64 1)
  have d6 := d5.s4_1 (.int .i32 (b % 32))
  have o6 := only_setCell (p := ⟨g, 1, none⟩) o5 (.inl rfl) (.int .i32 (b % 32))
  exact fed_nil E.out (show Dec _ g _ from d6) o6

theorem begin_e0 (b : Int) (hb : b = 224) (w : World) (g : Nat) (s : DS) (hd : Dec w g s) :
    Calls Tryd.prog 36 #[.pointer (some ⟨g, 0, none⟩), .int .u8 b] w (Fed w g (Utf.begin_ b)) := by
  have e : Utf.begin_ b = ([], ⟨2, 0, 160, 191⟩) := by
    subst hb; rfl
  have E := Lib.hid e
  clear e
  subst hb
  have c0 := hd.cell 0
  have c1 := hd.cell 1
  have c2 := hd.cell 2
  have c3 := hd.cell 3
  have f0 := hd.frozen 0
  have f1 := hd.frozen 1
  have f2 := hd.frozen 2
  have f3 := hd.frozen 3
  have hlt := hd.lt
  simp at c0 c1 c2 c3
  go_enter Tryd.func36, Tryd.ntmps36
  go_wp2
  go_ret
  have d0 : Blk w g 57 _ := hd
  have o0 := only_refl w (some g)
  have d1 := d0.s4_0 (.int .i64 0)
  have o1 := only_setCell (p := ⟨g, 0, none⟩) o0 (.inl rfl) (.int .i64 0)
  have d2 := d1.s4_1 (.int .i32 0)
  have o2 := only_setCell (p := ⟨g, 1, none⟩) o1 (.inl rfl) (.int .i32 0)
  have d3 := d2.s4_2 (.int .u8 128)
  have o3 := only_setCell (p := ⟨g, 2, none⟩) o2 (.inl rfl) (.int .u8 128)
  have d4 := d3.s4_3 (.int .u8 191)
  have o4 := only_setCell (p := ⟨g, 3, none⟩) o3 (.inl rfl) (.int .u8 191)
  have d5 := d4.s4_0 (.int .i64 2)
  have o5 := only_setCell (p := ⟨g, 0, none⟩) o4 (.inl rfl) (.int .i64 2)
  have d6 := d5.s4_1 (.int .i32 0)
  have o6 := only_setCell (p := ⟨g, 1, none⟩) o5 (.inl rfl) (.int .i32 0)
  have d7 := d6.s4_2 (.int .u8 160)
  have o7 := only_setCell (p := ⟨g, 2, none⟩) o6 (.inl rfl) (.int .u8 160)
  exact fed_nil E.out (show Dec _ g _ from d7) o7

theorem begin_e1 (b : Int) (hb : 225 ≤ b ∧ b ≤ 236) (w : World) (g : Nat) (s : DS) (hd : Dec w g s) :
    Calls Tryd.prog 36 #[.pointer (some ⟨g, 0, none⟩), .int .u8 b] w (Fed w g (Utf.begin_ b)) := by
  have e : Utf.begin_ b = ([], ⟨2, b % 16, 128, 191⟩) := by
    unfold Utf.begin_ Utf.loOf Utf.hiOf; repeat' split
    all_goals first | rfl | (exfalso; omega)
  have E := Lib.hid e
  clear e
  obtain ⟨b0, b1⟩ := hb
  have t0 : decide (b < 128) = false := by simp; omega
  have t1 : decide (194 ≤ b) = true := by simp; omega
  have t2 : decide (b ≤ 223) = false := by simp; omega
  have t3 : decide (224 ≤ b) = true := by simp; omega
  have t4 : decide (b ≤ 239) = true := by simp; omega
  have t5 : decide (240 ≤ b) = false := by simp; omega
  have t6 : decide (b ≤ 244) = true := by simp; omega
  have u224 : (b == 224) = false := beq_eq_false_iff_ne.2 (by omega)
  have u237 : (b == 237) = false := beq_eq_false_iff_ne.2 (by omega)
  have u240 : (b == 240) = false := beq_eq_false_iff_ne.2 (by omega)
  have u244 : (b == 244) = false := beq_eq_false_iff_ne.2 (by omega)
  have c0 := hd.cell 0
  have c1 := hd.cell 1
  have c2 := hd.cell 2
  have c3 := hd.cell 3
  have f0 := hd.frozen 0
  have f1 := hd.frozen 1
  have f2 := hd.frozen 2
  have f3 := hd.frozen 3
  have hlt := hd.lt
  simp at c0 c1 c2 c3
  go_enter Tryd.func36, Tryd.ntmps36
  go_wp2
  go_ret
  have d0 : Blk w g 57 _ := hd
  have o0 := only_refl w (some g)
  have d1 := d0.s4_0 (.int .i64 0)
  have o1 := only_setCell (p := ⟨g, 0, none⟩) o0 (.inl rfl) (.int .i64 0)
  have d2 := d1.s4_1 (.int .i32 0)
  have o2 := only_setCell (p := ⟨g, 1, none⟩) o1 (.inl rfl) (.int .i32 0)
  have d3 := d2.s4_2 (.int .u8 128)
  have o3 := only_setCell (p := ⟨g, 2, none⟩) o2 (.inl rfl) (.int .u8 128)
  have d4 := d3.s4_3 (.int .u8 191)
  have o4 := only_setCell (p := ⟨g, 3, none⟩) o3 (.inl rfl) (.int .u8 191)
  have d5 := d4.s4_0 (.int .i64 2)
  have o5 := only_setCell (p := ⟨g, 0, none⟩) o4 (.inl rfl) (.int .i64 2)
  have d6 := d5.s4_1 (.int .i32 (b % 16))
  have o6 := only_setCell (p := ⟨g, 1, none⟩) o5 (.inl rfl) (.int .i32 (b % 16))
  exact fed_nil E.out (show Dec _ g _ from d6) o6

theorem begin_ed (b : Int) (hb : b = 237) (w : World) (g : Nat) (s : DS) (hd : Dec w g s) :
    Calls Tryd.prog 36 #[.pointer (some ⟨g, 0, none⟩), .int .u8 b] w (Fed w g (Utf.begin_ b)) := by
  have e : Utf.begin_ b = ([], ⟨2, 13, 128, 159⟩) := by
    subst hb; rfl
  have E := Lib.hid e
  clear e
  subst hb
  have c0 := hd.cell 0
  have c1 := hd.cell 1
  have c2 := hd.cell 2
  have c3 := hd.cell 3
  have f0 := hd.frozen 0
  have f1 := hd.frozen 1
  have f2 := hd.frozen 2
  have f3 := hd.frozen 3
  have hlt := hd.lt
  simp at c0 c1 c2 c3
  go_enter Tryd.func36, Tryd.ntmps36
  go_wp2
  go_ret
  have d0 : Blk w g 57 _ := hd
  have o0 := only_refl w (some g)
  have d1 := d0.s4_0 (.int .i64 0)
  have o1 := only_setCell (p := ⟨g, 0, none⟩) o0 (.inl rfl) (.int .i64 0)
  have d2 := d1.s4_1 (.int .i32 0)
  have o2 := only_setCell (p := ⟨g, 1, none⟩) o1 (.inl rfl) (.int .i32 0)
  have d3 := d2.s4_2 (.int .u8 128)
  have o3 := only_setCell (p := ⟨g, 2, none⟩) o2 (.inl rfl) (.int .u8 128)
  have d4 := d3.s4_3 (.int .u8 191)
  have o4 := only_setCell (p := ⟨g, 3, none⟩) o3 (.inl rfl) (.int .u8 191)
  have d5 := d4.s4_0 (.int .i64 2)
  have o5 := only_setCell (p := ⟨g, 0, none⟩) o4 (.inl rfl) (.int .i64 2)
  have d6 := d5.s4_1 (.int .i32 13)
  have o6 := only_setCell (p := ⟨g, 1, none⟩) o5 (.inl rfl) (.int .i32 13)
  have d7 := d6.s4_3 (.int .u8 159)
  have o7 := only_setCell (p := ⟨g, 3, none⟩) o6 (.inl rfl) (.int .u8 159)
  exact fed_nil E.out (show Dec _ g _ from d7) o7

theorem begin_ee (b : Int) (hb : 238 ≤ b ∧ b ≤ 239) (w : World) (g : Nat) (s : DS) (hd : Dec w g s) :
    Calls Tryd.prog 36 #[.pointer (some ⟨g, 0, none⟩), .int .u8 b] w (Fed w g (Utf.begin_ b)) := by
  have e : Utf.begin_ b = ([], ⟨2, b % 16, 128, 191⟩) := by
    unfold Utf.begin_ Utf.loOf Utf.hiOf; repeat' split
    all_goals first | rfl | (exfalso; omega)
  have E := Lib.hid e
  clear e
  obtain ⟨b0, b1⟩ := hb
  have t0 : decide (b < 128) = false := by simp; omega
  have t1 : decide (194 ≤ b) = true := by simp; omega
  have t2 : decide (b ≤ 223) = false := by simp; omega
  have t3 : decide (224 ≤ b) = true := by simp; omega
  have t4 : decide (b ≤ 239) = true := by simp; omega
  have t5 : decide (240 ≤ b) = false := by simp; omega
  have t6 : decide (b ≤ 244) = true := by simp; omega
  have u224 : (b == 224) = false := beq_eq_false_iff_ne.2 (by omega)
  have u237 : (b == 237) = false := beq_eq_false_iff_ne.2 (by omega)
  have u240 : (b == 240) = false := beq_eq_false_iff_ne.2 (by omega)
  have u244 : (b == 244) = false := beq_eq_false_iff_ne.2 (by omega)
  have c0 := hd.cell 0
  have c1 := hd.cell 1
  have c2 := hd.cell 2
  have c3 := hd.cell 3
  have f0 := hd.frozen 0
  have f1 := hd.frozen 1
  have f2 := hd.frozen 2
  have f3 := hd.frozen 3
  have hlt := hd.lt
  simp at c0 c1 c2 c3
  go_enter Tryd.func36, Tryd.ntmps36
  go_wp2
  go_ret
  have d0 : Blk w g 57 _ := hd
  have o0 := only_refl w (some g)
  have d1 := d0.s4_0 (.int .i64 0)
  have o1 := only_setCell (p := ⟨g, 0, none⟩) o0 (.inl rfl) (.int .i64 0)
  have d2 := d1.s4_1 (.int .i32 0)
  have o2 := only_setCell (p := ⟨g, 1, none⟩) o1 (.inl rfl) (.int .i32 0)
  have d3 := d2.s4_2 (.int .u8 128)
  have o3 := only_setCell (p := ⟨g, 2, none⟩) o2 (.inl rfl) (.int .u8 128)
  have d4 := d3.s4_3 (.int .u8 191)
  have o4 := only_setCell (p := ⟨g, 3, none⟩) o3 (.inl rfl) (.int .u8 191)
  have d5 := d4.s4_0 (.int .i64 2)
  have o5 := only_setCell (p := ⟨g, 0, none⟩) o4 (.inl rfl) (.int .i64 2)
  have d6 := d5.s4_1 (.int .i32 (b % 16))
  have o6 := only_setCell (p := ⟨g, 1, none⟩) o5 (.inl rfl) (.int .i32 (b % 16))
  exact fed_nil E.out (show Dec _ g _ from d6) o6

theorem begin_f0 (b : Int) (hb : b = 240) (w : World) (g : Nat) (s : DS) (hd : Dec w g s) :
    Calls Tryd.prog 36 #[.pointer (some ⟨g, 0, none⟩), .int .u8 b] w (Fed w g (Utf.begin_ b)) := by
  have e : Utf.begin_ b = ([], ⟨3, 0, 144, 191⟩) := by
    subst hb; rfl
  have E := Lib.hid e
  clear e
  subst hb
  have c0 := hd.cell 0
  have c1 := hd.cell 1
  have c2 := hd.cell 2
  have c3 := hd.cell 3
  have f0 := hd.frozen 0
  have f1 := hd.frozen 1
  have f2 := hd.frozen 2
  have f3 := hd.frozen 3
  have hlt := hd.lt
  simp at c0 c1 c2 c3
  go_enter Tryd.func36, Tryd.ntmps36
  go_wp2
  go_ret
  have d0 : Blk w g 57 _ := hd
  have o0 := only_refl w (some g)
  have d1 := d0.s4_0 (.int .i64 0)
  have o1 := only_setCell (p := ⟨g, 0, none⟩) o0 (.inl rfl) (.int .i64 0)
  have d2 := d1.s4_1 (.int .i32 0)
  have o2 := only_setCell (p := ⟨g, 1, none⟩) o1 (.inl rfl) (.int .i32 0)
  have d3 := d2.s4_2 (.int .u8 128)
  have o3 := only_setCell (p := ⟨g, 2, none⟩) o2 (.inl rfl) (.int .u8 128)
  have d4 := d3.s4_3 (.int .u8 191)
  have o4 := only_setCell (p := ⟨g, 3, none⟩) o3 (.inl rfl) (.int .u8 191)
  have d5 := d4.s4_0 (.int .i64 3)
  have o5 := only_setCell (p := ⟨g, 0, none⟩) o4 (.inl rfl) (.int .i64 3)
  have d6 := d5.s4_1 (.int .i32 0)
  have o6 := only_setCell (p := ⟨g, 1, none⟩) o5 (.inl rfl) (.int .i32 0)
  have d7 := d6.s4_2 (.int .u8 144)
  have o7 := only_setCell (p := ⟨g, 2, none⟩) o6 (.inl rfl) (.int .u8 144)
  exact fed_nil E.out (show Dec _ g _ from d7) o7

theorem begin_f1 (b : Int) (hb : 241 ≤ b ∧ b ≤ 243) (w : World) (g : Nat) (s : DS) (hd : Dec w g s) :
    Calls Tryd.prog 36 #[.pointer (some ⟨g, 0, none⟩), .int .u8 b] w (Fed w g (Utf.begin_ b)) := by
  have e : Utf.begin_ b = ([], ⟨3, b % 8, 128, 191⟩) := by
    unfold Utf.begin_ Utf.loOf Utf.hiOf; repeat' split
    all_goals first | rfl | (exfalso; omega)
  have E := Lib.hid e
  clear e
  obtain ⟨b0, b1⟩ := hb
  have t0 : decide (b < 128) = false := by simp; omega
  have t1 : decide (194 ≤ b) = true := by simp; omega
  have t2 : decide (b ≤ 223) = false := by simp; omega
  have t3 : decide (224 ≤ b) = true := by simp; omega
  have t4 : decide (b ≤ 239) = false := by simp; omega
  have t5 : decide (240 ≤ b) = true := by simp; omega
  have t6 : decide (b ≤ 244) = true := by simp; omega
  have u224 : (b == 224) = false := beq_eq_false_iff_ne.2 (by omega)
  have u237 : (b == 237) = false := beq_eq_false_iff_ne.2 (by omega)
  have u240 : (b == 240) = false := beq_eq_false_iff_ne.2 (by omega)
  have u244 : (b == 244) = false := beq_eq_false_iff_ne.2 (by omega)
  have c0 := hd.cell 0
  have c1 := hd.cell 1
  have c2 := hd.cell 2
  have c3 := hd.cell 3
  have f0 := hd.frozen 0
  have f1 := hd.frozen 1
  have f2 := hd.frozen 2
  have f3 := hd.frozen 3
  have hlt := hd.lt
  simp at c0 c1 c2 c3
  go_enter Tryd.func36, Tryd.ntmps36
  go_wp2
  go_ret
  have d0 : Blk w g 57 _ := hd
  have o0 := only_refl w (some g)
  have d1 := d0.s4_0 (.int .i64 0)
  have o1 := only_setCell (p := ⟨g, 0, none⟩) o0 (.inl rfl) (.int .i64 0)
  have d2 := d1.s4_1 (.int .i32 0)
  have o2 := only_setCell (p := ⟨g, 1, none⟩) o1 (.inl rfl) (.int .i32 0)
  have d3 := d2.s4_2 (.int .u8 128)
  have o3 := only_setCell (p := ⟨g, 2, none⟩) o2 (.inl rfl) (.int .u8 128)
  have d4 := d3.s4_3 (.int .u8 191)
  have o4 := only_setCell (p := ⟨g, 3, none⟩) o3 (.inl rfl) (.int .u8 191)
  have d5 := d4.s4_0 (.int .i64 3)
  have o5 := only_setCell (p := ⟨g, 0, none⟩) o4 (.inl rfl) (.int .i64 3)
  have d6 := d5.s4_1 (.int .i32 (b % 8))
  have o6 := only_setCell (p := ⟨g, 1, none⟩) o5 (.inl rfl) (.int .i32 (b % 8))
  exact fed_nil E.out (show Dec _ g _ from d6) o6

theorem begin_f4 (b : Int) (hb : b = 244) (w : World) (g : Nat) (s : DS) (hd : Dec w g s) :
    Calls Tryd.prog 36 #[.pointer (some ⟨g, 0, none⟩), .int .u8 b] w (Fed w g (Utf.begin_ b)) := by
  have e : Utf.begin_ b = ([], ⟨3, 4, 128, 143⟩) := by
    subst hb; rfl
  have E := Lib.hid e
  clear e
  subst hb
  have c0 := hd.cell 0
  have c1 := hd.cell 1
  have c2 := hd.cell 2
  have c3 := hd.cell 3
  have f0 := hd.frozen 0
  have f1 := hd.frozen 1
  have f2 := hd.frozen 2
  have f3 := hd.frozen 3
  have hlt := hd.lt
  simp at c0 c1 c2 c3
  go_enter Tryd.func36, Tryd.ntmps36
  go_wp2
  go_ret
  have d0 : Blk w g 57 _ := hd
  have o0 := only_refl w (some g)
  have d1 := d0.s4_0 (.int .i64 0)
  have o1 := only_setCell (p := ⟨g, 0, none⟩) o0 (.inl rfl) (.int .i64 0)
  have d2 := d1.s4_1 (.int .i32 0)
  have o2 := only_setCell (p := ⟨g, 1, none⟩) o1 (.inl rfl) (.int .i32 0)
  have d3 := d2.s4_2 (.int .u8 128)
  have o3 := only_setCell (p := ⟨g, 2, none⟩) o2 (.inl rfl) (.int .u8 128)
  have d4 := d3.s4_3 (.int .u8 191)
  have o4 := only_setCell (p := ⟨g, 3, none⟩) o3 (.inl rfl) (.int .u8 191)
  have d5 := d4.s4_0 (.int .i64 3)
  have o5 := only_setCell (p := ⟨g, 0, none⟩) o4 (.inl rfl) (.int .i64 3)
  have d6 := d5.s4_1 (.int .i32 4)
  have o6 := only_setCell (p := ⟨g, 1, none⟩) o5 (.inl rfl) (.int .i32 4)
  have d7 := d6.s4_3 (.int .u8 143)
  have o7 := only_setCell (p := ⟨g, 3, none⟩) o6 (.inl rfl) (.int .u8 143)
  exact fed_nil E.out (show Dec _ g _ from d7) o7

theorem begin_f5 (b : Int) (hb : 245 ≤ b ∧ b < 256) (w : World) (g : Nat) (s : DS) (hd : Dec w g s) :
    Calls Tryd.prog 36 #[.pointer (some ⟨g, 0, none⟩), .int .u8 b] w (Fed w g (Utf.begin_ b)) := by
  have e : Utf.begin_ b = ([65533], ⟨0, 0, 128, 191⟩) := by
    unfold Utf.begin_ Utf.loOf Utf.hiOf; repeat' split
    all_goals first | rfl | (exfalso; omega)
  have E := Lib.hid e
  clear e
  obtain ⟨b0, b1⟩ := hb
  have t0 : decide (b < 128) = false := by simp; omega
  have t1 : decide (194 ≤ b) = true := by simp; omega
  have t2 : decide (b ≤ 223) = false := by simp; omega
  have t3 : decide (224 ≤ b) = true := by simp; omega
  have t4 : decide (b ≤ 239) = false := by simp; omega
  have t5 : decide (240 ≤ b) = true := by simp; omega
  have t6 : decide (b ≤ 244) = false := by simp; omega
  have u224 : (b == 224) = false := beq_eq_false_iff_ne.2 (by omega)
  have u237 : (b == 237) = false := beq_eq_false_iff_ne.2 (by omega)
  have u240 : (b == 240) = false := beq_eq_false_iff_ne.2 (by omega)
  have u244 : (b == 244) = false := beq_eq_false_iff_ne.2 (by omega)
  have c0 := hd.cell 0
  have c1 := hd.cell 1
  have c2 := hd.cell 2
  have c3 := hd.cell 3
  have f0 := hd.frozen 0
  have f1 := hd.frozen 1
  have f2 := hd.frozen 2
  have f3 := hd.frozen 3
  have hlt := hd.lt
  simp at c0 c1 c2 c3
  go_enter Tryd.func36, Tryd.ntmps36
  go_wp2
  go_ret
  have d0 : Blk w g 57 _ := hd
  have o0 := only_refl w (some g)
  have d1 := d0.s4_0 (.int .i64 0)
  have o1 := only_setCell (p := ⟨g, 0, none⟩) o0 (.inl rfl) (.int .i64 0)
  have d2 := d1.s4_1 (.int .i32 0)
  have o2 := only_setCell (p := ⟨g, 1, none⟩) o1 (.inl rfl) (.int .i32 0)
  have d3 := d2.s4_2 (.int .u8 128)
  have o3 := only_setCell (p := ⟨g, 2, none⟩) o2 (.inl rfl) (.int .u8 128)
  have d4 := d3.s4_3 (.int .u8 191)
  have o4 := only_setCell (p := ⟨g, 3, none⟩) o3 (.inl rfl) (.int .u8 191)
  exact fed_one E.out (by simp) rfl (show Dec _ g _ from d4) o4

/-- begin, of any byte. -/
theorem begin_any (b : Int) (hb : Utf.Byte b) (w : World) (g : Nat) (s : DS) (hd : Dec w g s) :
    Calls Tryd.prog 36 #[.pointer (some ⟨g, 0, none⟩), .int .u8 b] w (Fed w g (Utf.begin_ b)) := by
  unfold Utf.Byte at hb
  rcases (show (0 ≤ b ∧ b < 128) ∨ (128 ≤ b ∧ b ≤ 193) ∨ (194 ≤ b ∧ b ≤ 223) ∨ (b = 224) ∨ (225 ≤ b ∧ b ≤ 236) ∨ (b = 237) ∨ (238 ≤ b ∧ b ≤ 239) ∨ (b = 240) ∨ (241 ≤ b ∧ b ≤ 243) ∨ (b = 244) ∨ (245 ≤ b ∧ b < 256) by omega) with h | h | h | h | h | h | h | h | h | h | h
  · exact begin_lo b h w g s hd
  · exact begin_mid b h w g s hd
  · exact begin_two b h w g s hd
  · exact begin_e0 b h w g s hd
  · exact begin_e1 b h w g s hd
  · exact begin_ed b h w g s hd
  · exact begin_ee b h w g s hd
  · exact begin_f0 b h w g s hd
  · exact begin_f1 b h w g s hd
  · exact begin_f4 b h w g s hd
  · exact begin_f5 b h w g s hd
end Go.Proofs.YtijjnpegokfidaaDoor
