/- The walks of utf's New, Feed, End. -/
import Derived.Test.YtijjnpegokfidaaDoorUtfBegin
import Derived.Lib.Hide
namespace Go.Proofs.YtijjnpegokfidaaDoor
open Go.RowKit
open Utf (DS)
set_option linter.unusedVariables false
set_option linter.unusedSimpArgs false

theorem new_any (w : World) : Calls Tryd.prog 23 #[] w fun e w' => e = .returned (.pointer (some ⟨w.heap.size, 0, none⟩)) ∧ Dec w' w.heap.size Utf.start ∧ Below w.heap.size w w' := by
  go_enter Tryd.func23, Tryd.ntmps23
  go_wp2
  go_ret
  exact ⟨rfl, Blk.new _ _ _, (Below.refl _ _).alloc (Nat.le_refl _) _⟩

theorem feed_first (b : Int) (hb : Utf.Byte b) (w : World) (g : Nat) (s : DS) (hd : Dec w g s) (hn : s.need = 0) :
    Calls Tryd.prog 32 #[.pointer (some ⟨g, 0, none⟩), .int .u8 b] w (Fed w g (Utf.feed s b)) := by
  have e : Utf.begin_ b = Utf.feed s b := by unfold Utf.feed; rw [if_pos hn]
  rw [← e]
  have c0 := hd.cell 0
  have f0 := hd.frozen 0
  simp [hn] at c0
  clear e hn
  go_enter Tryd.func32, Tryd.ntmps32
  go_wp2_with fail
  refine (begin_any b hb w g s hd).mono ?_
  rintro e w1 ⟨A, c, rfl, h1, h2, h3⟩
  go_wp2_with fail
  go_ret
  exact ⟨A, c, rfl, h1, h2, h3⟩

theorem feed_more (b : Int) (hb : Utf.Byte b) (w : World) (g : Nat) (s : DS) (hd : Dec w g s) (hw : Utf.WF s) (hn : 2 ≤ s.need) (h1 : s.lo ≤ b) (h2 : b ≤ s.hi) :
    Calls Tryd.prog 32 #[.pointer (some ⟨g, 0, none⟩), .int .u8 b] w (Fed w g (Utf.feed s b)) := by
  have e : Utf.feed s b = ([], ⟨s.need - 1, s.n * 64 + b % 64, 128, 191⟩) := by unfold Utf.feed; rw [if_neg (by omega), if_neg (by omega), if_neg (by omega)]
  have E := Lib.hid e
  have hv := Lib.hid (shl6_or s.n b hw.n0 (by have := hw.n4; omega) hb.1 hb.2)
  clear e
  have c0 := hd.cell 0
  have c1 := hd.cell 1
  have c2 := hd.cell 2
  have c3 := hd.cell 3
  have f0 := hd.frozen 0
  have f1 := hd.frozen 1
  have f2 := hd.frozen 2
  have f3 := hd.frozen 3
  have hlt := hd.lt
  simp at c0 c1 c2 c3
  have t0 : ((s.need : Int) == 0) = false := beq_eq_false_iff_ne.2 (by omega)
  have t1 : decide (b < s.lo) = false := decide_eq_false (by omega)
  have t2 : decide (s.hi < b) = false := decide_eq_false (by omega)
  have t3 : ((s.need : Int) - 1 == 0) = false := beq_eq_false_iff_ne.2 (by omega)
  have hn3 := hw.need
  have hn4 := hw.n4
  have hn0 := hw.n0
  go_enter Tryd.func32, Tryd.ntmps32
  go_wp2_with fail
  go_ret
  have d0 : Blk w g 57 _ := hd
  have o0 := only_refl w (some g)
  have d1 := d0.s4_0 (.int .i64 ((s.need : Int) - 1))
  have o1 := only_setCell (p := ⟨g, 0, none⟩) o0 (.inl rfl) (.int .i64 ((s.need : Int) - 1))
  have d2 := d1.s4_1 (.int .i32 (bits .or .i32 (s.n * 64) (wrap32 (bits .and .u8 b 63))))
  have o2 := only_setCell (p := ⟨g, 1, none⟩) o1 (.inl rfl) (.int .i32 (bits .or .i32 (s.n * 64) (wrap32 (bits .and .u8 b 63))))
  have d3 := d2.s4_2 (.int .u8 128)
  have o3 := only_setCell (p := ⟨g, 2, none⟩) o2 (.inl rfl) (.int .u8 128)
  have d4 := d3.s4_3 (.int .u8 191)
  have o4 := only_setCell (p := ⟨g, 3, none⟩) o3 (.inl rfl) (.int .u8 191)
  refine fed_nil E.out (?_ : Dec _ g _) o4
  have hc : (s.need : Int) - 1 = ((s.need - 1 : Nat) : Int) := by omega
  show Blk _ g _ #[.int .i64 ((s.need - 1 : Nat) : Int), .int .i32 (s.n * 64 + b % 64), .int .u8 128, .int .u8 191]
  rw [← hc, ← hv.out]
  exact d4

theorem feed_last (b : Int) (hb : Utf.Byte b) (w : World) (g : Nat) (s : DS) (hd : Dec w g s) (hw : Utf.WF s) (hn : s.need = 1) (h1 : s.lo ≤ b) (h2 : b ≤ s.hi) :
    Calls Tryd.prog 32 #[.pointer (some ⟨g, 0, none⟩), .int .u8 b] w (Fed w g (Utf.feed s b)) := by
  have hv0 := shl6_or s.n b hw.n0 (by have := hw.n4; omega) hb.1 hb.2
  have e : Utf.feed s b = ([(bits .or .i32 (s.n * 64) (wrap32 (bits .and .u8 b 63)))], ⟨0, (bits .or .i32 (s.n * 64) (wrap32 (bits .and .u8 b 63))), 128, 191⟩) := by rw [hv0]; unfold Utf.feed; rw [if_neg (by omega), if_neg (by omega), if_pos hn]
  clear hv0
  have E := Lib.hid e
  clear e
  have c0 := hd.cell 0
  have c1 := hd.cell 1
  have c2 := hd.cell 2
  have c3 := hd.cell 3
  have f0 := hd.frozen 0
  have f1 := hd.frozen 1
  have f2 := hd.frozen 2
  have f3 := hd.frozen 3
  have hlt := hd.lt
  simp at c0 c1 c2 c3
  have t0 : ((s.need : Int) == 0) = false := beq_eq_false_iff_ne.2 (by omega)
  have t1 : decide (b < s.lo) = false := decide_eq_false (by omega)
  have t2 : decide (s.hi < b) = false := decide_eq_false (by omega)
  have t3 : ((s.need : Int) - 1 == 0) = true := beq_iff_eq.2 (by omega)
  have hn3 := hw.need
  have hn4 := hw.n4
  have hn0 := hw.n0
  go_enter Tryd.func32, Tryd.ntmps32
  go_wp2_with fail
  go_ret
  have d0 : Blk w g 57 _ := hd
  have o0 := only_refl w (some g)
  have d1 := d0.s4_0 (.int .i64 0)
  have o1 := only_setCell (p := ⟨g, 0, none⟩) o0 (.inl rfl) (.int .i64 0)
  have d2 := d1.s4_1 (.int .i32 (bits .or .i32 (s.n * 64) (wrap32 (bits .and .u8 b 63))))
  have o2 := only_setCell (p := ⟨g, 1, none⟩) o1 (.inl rfl) (.int .i32 (bits .or .i32 (s.n * 64) (wrap32 (bits .and .u8 b 63))))
  have d3 := d2.s4_2 (.int .u8 128)
  have o3 := only_setCell (p := ⟨g, 2, none⟩) o2 (.inl rfl) (.int .u8 128)
  have d4 := d3.s4_3 (.int .u8 191)
  have o4 := only_setCell (p := ⟨g, 3, none⟩) o3 (.inl rfl) (.int .u8 191)
  exact fed_one E.out (by simp) rfl (show Dec _ g _ from d4) o4

theorem feed_broken (b : Int) (hb : Utf.Byte b) (w : World) (g : Nat) (s : DS) (hd : Dec w g s) (hn : s.need ≠ 0) (hr : b < s.lo ∨ s.hi < b) :
    Calls Tryd.prog 32 #[.pointer (some ⟨g, 0, none⟩), .int .u8 b] w (Fed w g (Utf.feed s b)) := by
  have e : Utf.feed s b = (65533 :: (Utf.begin_ b).1, (Utf.begin_ b).2) := by unfold Utf.feed; rw [if_neg hn, if_pos hr]
  have E := Lib.hid e
  clear e
  have c0 := hd.cell 0
  have c1 := hd.cell 1
  have c2 := hd.cell 2
  have c3 := hd.cell 3
  have f0 := hd.frozen 0
  have f1 := hd.frozen 1
  have f2 := hd.frozen 2
  have f3 := hd.frozen 3
  have hlt := hd.lt
  simp at c0 c1 c2 c3
  have t0 : ((s.need : Int) == 0) = false := beq_eq_false_iff_ne.2 (by omega)
  rcases (show b < s.lo ∨ (s.lo ≤ b ∧ s.hi < b) by omega) with h1 | ⟨h1, h2⟩
  · have t1 : decide (b < s.lo) = true := decide_eq_true h1
    go_enter Tryd.func32, Tryd.ntmps32
    go_wp2_with fail
    have d0 : Dec (w.alloc (.cells #[.int .i32 65533] 21)) g s := Blk.alloc hd _
    have ho := OwnI.lit1 w w.heap.size 21 .i32 65533 (Nat.le_refl _)
    have og : w.grownBy (w.alloc (.cells #[.int .i32 65533] 21)) (some g) := only_alloc (only_refl w _) _
    have hs : (w.alloc (.cells #[.int .i32 65533] 21)).heap.size = w.heap.size + 1 := by simp
    obtain ⟨W, hW⟩ : ∃ W, W = w.alloc (.cells #[.int .i32 65533] 21) := ⟨_, rfl⟩
    rw [← hW] at d0 ho og hs ⊢
    clear hW
    refine (begin_any b hb W g s d0).mono ?_
    rintro e w1 ⟨A, c, rfl, h1, h2, h3⟩
    have ho1 := ho.only h3 (.inr (by simp [Value.ownBlock]; omega))
    have og1 := only_trans og h3 (fun x hx => .inl (by rw [hx]))
    have hl1 := Utf.begin_len b
    have hsz := h3.size
    clear h3 ho og d0
    go_wp2_with (at_builtin; refine wpList_append_ints _ rfl (.tmp 32) (.tmp 35) 53 21 .i32 4 rfl Tryd.underlying53 (by kernel_rfl) (by omega) w.heap.size (.slice (some ⟨w.heap.size, 0, none⟩) 1 1) [65533] rfl ho1 A c (Utf.begin_ b).1 rfl h1.read (by simp; omega) (by omega) ?_; intro A2 c2 w2 hap)
    go_ret
    have hl : (Utf.feed s b).1.length = [65533].length + (Utf.begin_ b).1.length := by rw [E.out]; simp; omega
    have hx : (Utf.feed s b).1 = [65533] ++ (Utf.begin_ b).1 := by rw [E.out]; rfl
    have hy : (Utf.feed s b).2 = (Utf.begin_ b).2 := by rw [E.out]
    refine ⟨A2, c2, by rw [hl]; rfl, by rw [hl, hx]; exact hap.own, ?_, only_trans og1 hap.only (fun x hx => .inr ?_)⟩
    · rw [hy]
      exact Blk.grown h2 hap.only (by simp [Value.ownBlock]; omega)
    · simp [Value.ownBlock] at hx
      omega
  · have t1 : decide (b < s.lo) = false := decide_eq_false (by omega)
    have t2 : decide (s.hi < b) = true := decide_eq_true h2
    go_enter Tryd.func32, Tryd.ntmps32
    go_wp2_with fail
    have d0 : Dec (w.alloc (.cells #[.int .i32 65533] 21)) g s := Blk.alloc hd _
    have ho := OwnI.lit1 w w.heap.size 21 .i32 65533 (Nat.le_refl _)
    have og : w.grownBy (w.alloc (.cells #[.int .i32 65533] 21)) (some g) := only_alloc (only_refl w _) _
    have hs : (w.alloc (.cells #[.int .i32 65533] 21)).heap.size = w.heap.size + 1 := by simp
    obtain ⟨W, hW⟩ : ∃ W, W = w.alloc (.cells #[.int .i32 65533] 21) := ⟨_, rfl⟩
    rw [← hW] at d0 ho og hs ⊢
    clear hW
    refine (begin_any b hb W g s d0).mono ?_
    rintro e w1 ⟨A, c, rfl, h1, h2, h3⟩
    have ho1 := ho.only h3 (.inr (by simp [Value.ownBlock]; omega))
    have og1 := only_trans og h3 (fun x hx => .inl (by rw [hx]))
    have hl1 := Utf.begin_len b
    have hsz := h3.size
    clear h3 ho og d0
    go_wp2_with (at_builtin; refine wpList_append_ints _ rfl (.tmp 32) (.tmp 35) 53 21 .i32 4 rfl Tryd.underlying53 (by kernel_rfl) (by omega) w.heap.size (.slice (some ⟨w.heap.size, 0, none⟩) 1 1) [65533] rfl ho1 A c (Utf.begin_ b).1 rfl h1.read (by simp; omega) (by omega) ?_; intro A2 c2 w2 hap)
    go_ret
    have hl : (Utf.feed s b).1.length = [65533].length + (Utf.begin_ b).1.length := by rw [E.out]; simp; omega
    have hx : (Utf.feed s b).1 = [65533] ++ (Utf.begin_ b).1 := by rw [E.out]; rfl
    have hy : (Utf.feed s b).2 = (Utf.begin_ b).2 := by rw [E.out]
    refine ⟨A2, c2, by rw [hl]; rfl, by rw [hl, hx]; exact hap.own, ?_, only_trans og1 hap.only (fun x hx => .inr ?_)⟩
    · rw [hy]
      exact Blk.grown h2 hap.only (by simp [Value.ownBlock]; omega)
    · simp [Value.ownBlock] at hx
      omega

/-- Feed, of any byte, on any decoder. -/
theorem feed_any (b : Int) (hb : Utf.Byte b) (w : World) (g : Nat) (s : DS) (hd : Dec w g s) (hw : Utf.WF s) :
    Calls Tryd.prog 32 #[.pointer (some ⟨g, 0, none⟩), .int .u8 b] w (Fed w g (Utf.feed s b)) := by
  by_cases h0 : s.need = 0
  · exact feed_first b hb w g s hd h0
  · by_cases hr : b < s.lo ∨ s.hi < b
    · exact feed_broken b hb w g s hd h0 hr
    · by_cases h1 : s.need = 1
      · exact feed_last b hb w g s hd hw h1 (by omega) (by omega)
      · exact feed_more b hb w g s hd hw (by omega) (by omega) (by omega)
theorem feed_nil (b : Int) (w : World) :
    Calls Tryd.prog 32 #[.pointer none, .int .u8 b] w fun e w' => e = .returned (.slice none 0 0) ∧ w = w' := by
  go_enter Tryd.func32, Tryd.ntmps32
  go_wp2
  go_ret
  exact ⟨rfl, rfl⟩
theorem end_nil (w : World) :
    Calls Tryd.prog 25 #[.pointer none] w fun e w' => e = .returned (.slice none 0 0) ∧ w = w' := by
  go_enter Tryd.func25, Tryd.ntmps25
  go_wp2
  go_ret
  exact ⟨rfl, rfl⟩
theorem end_any (w : World) (g : Nat) (s : DS) (hd : Dec w g s) :
    Calls Tryd.prog 25 #[.pointer (some ⟨g, 0, none⟩)] w (Fed w g (Utf.endT s, Utf.endS s)) := by
  have c0 := hd.cell 0
  have f0 := hd.frozen 0
  have hlt := hd.lt
  simp at c0
  by_cases hn : s.need = 0
  · have e : (Utf.endT s, Utf.endS s) = ([], s) := by unfold Utf.endT Utf.endS; rw [if_pos hn, if_pos hn]
    have E := Lib.hid e
    simp [hn] at c0
    clear e hn
    go_enter Tryd.func25, Tryd.ntmps25
    go_wp2_with fail
    go_ret
    exact fed_nil E.out hd (only_refl w _)
  · have e : (Utf.endT s, Utf.endS s) = ([65533], ⟨0, s.n, s.lo, s.hi⟩) := by unfold Utf.endT Utf.endS; rw [if_neg hn, if_neg hn]
    have E := Lib.hid e
    have t0 : ((s.need : Int) == 0) = false := beq_eq_false_iff_ne.2 (by omega)
    clear e hn
    go_enter Tryd.func25, Tryd.ntmps25
    go_wp2_with fail
    go_ret
    have d0 : Blk w g 57 _ := hd
    have o0 := only_refl w (some g)
    have d1 := d0.s4_0 (.int .i64 0)
    have o1 := only_setCell (p := ⟨g, 0, none⟩) o0 (.inl rfl) (.int .i64 0)
    exact fed_one E.out (by simp) rfl (show Dec _ g _ from d1) o1
end Go.Proofs.YtijjnpegokfidaaDoor
