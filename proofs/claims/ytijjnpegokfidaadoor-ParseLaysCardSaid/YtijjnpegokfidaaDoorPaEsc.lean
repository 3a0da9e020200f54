/- escaped walked. -/
import Derived.Test.YtijjnpegokfidaaDoorPaCtl2
import Derived.Lib.Bytealg
namespace Go.Proofs.YtijjnpegokfidaaDoor
open Go.RowKit
open Pa
set_option linter.unusedVariables false
set_option linter.unusedSimpArgs false

theorem World.setCell_size (w : World) (p : Addr) (u : Value) : (w.setCell p u).heap.size = w.heap.size := by simp
theorem feedEnd_lit {w w2 : World} {B gp gd : Nat} {s s' : PS} {vp vt : Value} {t : TAct} {N : Nat} (hN : w2.heap.size = N) (h0 : Pv w B gp gd s vp vt) (hP : Pv w2 B gp gd s' vp vt) (k : Keeps (Its gp gd vp vt) w w2) (ht : t.text = []) (hp : t.params = []) :
    FeedEnd w B gp gd vp vt ([t], s') (.returned (.slice (some ⟨N, 0, none⟩) 1 1)) (w2.alloc (.cells (acell (t, nilV, nilV)).toArray 25)) := by
  subst hN
  have hb3 := below_alloc (Below.refl w2.heap.size w2) (.cells (acell (t, nilV, nilV)).toArray 25)
  have hA := Acs.lit1 w2 w.heap.size (t, nilV, nilV) k.size (by show OwnI _ _ _ _ _ t.params; rw [hp]; exact OwnI.nil _ _ _ _) (by show OwnI _ _ _ _ _ t.text; rw [ht]; exact OwnI.nil _ _ _ _)
  exact FeedEnd.same (r := ([t], s')) (L := [(t, nilV, nilV)]) h0 hA rfl (hP.under hb3) (k.trans (Keeps.under hb3 (fun _ => False)) (fun _ h => h.elim))
set_option maxRecDepth 100000 in
theorem slIndexByte_any (s : ByteArray) (c : Int) (w : World) :
    Calls Tryd.prog 21 #[.string s, .int .u8 c] w fun e w' => e = .returned (.int .i64 (Lib.indexByte s.data.toList c.toNat.toUInt8)) ∧ w' = w := by
  go_enter Tryd.func21, Tryd.ntmps21
  go_wp2
  rw [run_callFunc_extern Tryd.func30 (by kernel_rfl) (by kernel_rfl) (by kernel_rfl) (e := Extern.BytealgIndexByte.indexByte) (by kernel_rfl), Lib.run_indexByteString]
  simp only [Result.andThen]
  rw [Oper.upon_value]
  go_wp2
  go_ret
  exact ⟨rfl, rfl⟩
set_option maxRecDepth 100000 in
theorem stIndexByte_any (s : ByteArray) (c : Int) (w : World) :
    Calls Tryd.prog 14 #[.string s, .int .u8 c] w fun e w' => e = .returned (.int .i64 (Lib.indexByte s.data.toList c.toNat.toUInt8)) ∧ w' = w := by
  go_enter Tryd.func14, Tryd.ntmps14
  go_wp2_with fail
  refine (slIndexByte_any s c w).mono ?_
  rintro e w1 ⟨rfl, rfl⟩
  go_wp2_with fail
  go_ret
  exact ⟨rfl, rfl⟩
theorem passed_in : ∀ n : Nat, n < 256 → (decide (0 ≤ Lib.indexByte [80, 88, 94, 95] n.toUInt8)) = decide (n = 80 ∨ n = 88 ∨ n = 94 ∨ n = 95) := by
  decide +kernel
theorem passed_iff (b : Int) (hb : 0 ≤ b ∧ b < 256) : (decide (0 ≤ Lib.indexByte [80, 88, 94, 95] b.toNat.toUInt8)) = decide (b = 80 ∨ b = 88 ∨ b = 94 ∨ b = 95) := by
  obtain ⟨n, rfl⟩ := Int.eq_ofNat_of_zero_le hb.1
  rw [Int.toNat_natCast, passed_in n (by omega)]
  exact decide_eq_decide.2 (by omega)

set_option maxRecDepth 100000 in
set_option maxHeartbeats 1000000 in
theorem escaped_any (b : Int) (hb : 0 ≤ b ∧ b < 256) (w : World) (B gp gd : Nat) (s : PS) (vp vt : Value) (hP : Pv w B gp gd s vp vt) (hw : WF s) :
    Calls Tryd.prog 33 #[.pointer (some ⟨gp, 0, none⟩), .int .u8 b] w (FeedEnd w B gp gd vp vt (escaped s b)) := by
  have HP := Lib.hid hP
  have c1 : w.cell? ⟨gp, 1, none⟩ = some (.int .i64 s.st) := hP.blk.cell 1
  have c3 : w.cell? ⟨gp, 3, none⟩ = some (.int .u8 s.mark) := hP.blk.cell 3
  have f1 : w.frozen? ⟨gp, 1, none⟩ = false := hP.blk.frozen 1
  have f2 : w.frozen? ⟨gp, 2, none⟩ = false := hP.blk.frozen 2
  have f3 : w.frozen? ⟨gp, 3, none⟩ = false := hP.blk.frozen 3
  have f4 : w.frozen? ⟨gp, 4, none⟩ = false := hP.blk.frozen 4
  have f5 : w.frozen? ⟨gp, 5, none⟩ = false := hP.blk.frozen 5
  have f6 : w.frozen? ⟨gp, 6, none⟩ = false := hP.blk.frozen 6
  have f7 : w.frozen? ⟨gp, 7, none⟩ = false := hP.blk.frozen 7
  have k1 : ∃ v, w.cell? ⟨gp, 2, none⟩ = some v := ⟨_, hP.blk.cell 2⟩
  have k4 : ∃ v, w.cell? ⟨gp, 4, none⟩ = some v := ⟨_, hP.blk.cell 4⟩
  have k5 : ∃ v, w.cell? ⟨gp, 5, none⟩ = some v := ⟨_, hP.blk.cell 5⟩
  have k6 : ∃ v, w.cell? ⟨gp, 6, none⟩ = some v := ⟨_, hP.blk.cell 6⟩
  have k7 : ∃ v, w.cell? ⟨gp, 7, none⟩ = some v := ⟨_, hP.blk.cell 7⟩
  obtain ⟨v2, c2⟩ := k1
  obtain ⟨v4, c4⟩ := k4
  obtain ⟨v5, c5⟩ := k5
  obtain ⟨v6, c6⟩ := k6
  obtain ⟨v7, c7⟩ := k7
  have hr : escaped s b = if b < 48 then (if s.mark ≠ 0 then ([], { s with st := 2 }) else ([], { s with mark := b })) else if s.mark = 0 ∧ b = 91 then ([], { s with st := 3, begun := false, middle := false, params := [] }) else if s.mark = 0 ∧ b = 93 then ([], { s with st := 5, text := [], long := false }) else if s.mark = 0 ∧ (b = 80 ∨ b = 88 ∨ b = 94 ∨ b = 95) then ([], { s with st := 6 }) else ([⟨3, 0, s.mark, b, [], []⟩], { s with st := 0 }) := rfl
  clear hP
  by_cases h48 : b < 48
  · rw [if_pos h48] at hr
    have dB : decide (b < 48) = true := decide_eq_true h48
    by_cases hm : s.mark = 0
    · rw [if_neg (by simp [hm])] at hr
      rw [hm] at c3
      have HR := Lib.hid hr
      clear hr hm h48
      go_enter Tryd.func33, Tryd.ntmps33
      go_wp2_with fail
      go_ret
      rw [HR.out]
      exact FeedEnd.none rfl (HP.out.setMark b).1 (HP.out.setMark b).2 Its.refl_or
    · rw [if_pos hm] at hr
      have dM : (s.mark != 0) = true := by simp [hm]
      have HR := Lib.hid hr
      clear hr hm h48
      go_enter Tryd.func33, Tryd.ntmps33
      go_wp2_with fail
      go_ret
      rw [HR.out]
      exact FeedEnd.none rfl (HP.out.setSt 2).1 (HP.out.setSt 2).2 Its.refl_or
  · rw [if_neg h48] at hr
    have dB : decide (b < 48) = false := decide_eq_false h48
    by_cases hm : s.mark = 0
    · rw [hm] at c3
      by_cases h91 : b = 91
      · rw [if_pos ⟨hm, h91⟩] at hr
        have HR := Lib.hid hr
        subst h91
        have hA := (HP.out.setSt 3)
        have hB := hA.1.setBegun false
        have hC := hB.1.setMiddle false
        have hD := hC.1.setPar nilV [] (OwnI.nil _ _ _ _) (fun g h => by cases h)
        have hK := ((hA.2.trans hB.2 (fun g h _ => h)).trans hC.2 (fun g h _ => h)).trans hD.2 (fun g h _ => h)
        have HD := Lib.hid (And.intro hD.1 hK)
        clear hr hm h48 hA hB hC hD hK
        go_enter Tryd.func33, Tryd.ntmps33
        go_wp2_with fail
        go_ret
        rw [HR.out]
        exact FeedEnd.none rfl HD.out.1 HD.out.2 (fun g hg => by
          rcases hg with h | h | h | h
          · exact .inl (.inl h)
          · exact .inl (.inr (.inl h))
          · cases h
          · exact .inl (.inr (.inr (.inr h))))
      · rw [if_neg (fun h => h91 h.2)] at hr
        have d91 : (b == 91) = false := beq_eq_false_iff_ne.2 h91
        by_cases h93 : b = 93
        · rw [if_pos ⟨hm, h93⟩] at hr
          have HR := Lib.hid hr
          subst h93
          have hA := (HP.out.setSt 5)
          have hB := hA.1.setTxt nilV [] (OwnI.nil _ _ _ _) (fun g h h2 => by cases h2)
          have hC := hB.1.setLong false
          have hsub : ∀ g, Its gp gd vp nilV g → Its gp gd vp vt g := fun g hg => by
            rcases hg with h | h | h | h
            · exact .inl h
            · exact .inr (.inl h)
            · exact .inr (.inr (.inl h))
            · cases h
          have hK := (hA.2.trans hB.2 (fun g h _ => h)).trans hC.2 (fun g h _ => hsub g h)
          have HD := Lib.hid (And.intro hC.1 hK)
          have HS := Lib.hid hsub
          clear hr hm h48 hA hB hC hK hsub h91 d91
          go_enter Tryd.func33, Tryd.ntmps33
          go_wp2_with fail
          go_ret
          rw [HR.out]
          exact FeedEnd.none rfl HD.out.1 HD.out.2 (fun g hg => .inl (HS.out g hg))
        · rw [if_neg (fun h => h93 h.2)] at hr
          have d93 : (b == 93) = false := beq_eq_false_iff_ne.2 h93
          have hpi := passed_iff b hb
          by_cases hp : b = 80 ∨ b = 88 ∨ b = 94 ∨ b = 95
          · rw [if_pos ⟨hm, hp⟩] at hr
            rw [decide_eq_true hp] at hpi
            have HR := Lib.hid hr
            clear hr hm h48 h91 h93 hp
            go_enter Tryd.func33, Tryd.ntmps33
            go_wp2_with fail
            refine (stIndexByte_any _ b w).mono ?_
            rintro e w1 ⟨rfl, rfl⟩
            go_wp2_with fail
            go_ret
            rw [HR.out]
            exact FeedEnd.none rfl (HP.out.setSt 6).1 (HP.out.setSt 6).2 Its.refl_or
          · rw [if_neg (fun h => hp h.2)] at hr
            rw [decide_eq_false hp] at hpi
            have HR := Lib.hid hr
            have HM := Lib.hid hm
            clear hr hm h48 h91 h93 hp
            go_enter Tryd.func33, Tryd.ntmps33
            go_wp2_with fail
            refine (stIndexByte_any _ b w).mono ?_
            rintro e w1 ⟨rfl, rfl⟩
            go_wp2_with fail
            go_ret
            rw [HR.out]
            have hq := feedEnd_lit (t := ⟨3, 0, s.mark, b, [], []⟩) (N := w1.heap.size) (World.setCell_size _ _ _) HP.out (HP.out.setSt 0).1 (HP.out.setSt 0).2 rfl rfl
            rw [HM.out] at hq ⊢
            exact hq
    · rw [if_neg (fun h => hm h.1), if_neg (fun h => hm h.1), if_neg (fun h => hm h.1)] at hr
      have dM : (s.mark == 0) = false := by simp [hm]
      have HR := Lib.hid hr
      clear hr hm h48
      go_enter Tryd.func33, Tryd.ntmps33
      go_wp2_with fail
      go_ret
      rw [HR.out]
      exact feedEnd_lit (t := ⟨3, 0, s.mark, b, [], []⟩) (N := w.heap.size) (World.setCell_size _ _ _) HP.out (HP.out.setSt 0).1 (HP.out.setSt 0).2 rfl rfl
end Go.Proofs.YtijjnpegokfidaaDoor
