/- ParseLays walked. -/
import Derived.Test.YtijjnpegokfidaaDoorPaLay4
import Derived.Test.YtijjnpegokfidaaDoorPaRLay4
import Derived.Test.YtijjnpegokfidaaDoorPaCopy
namespace Go.Proofs.YtijjnpegokfidaaDoor
open Go.RowKit
open Pa
set_option linter.unusedVariables false
set_option linter.unusedSimpArgs false

/-- What comes in: an act of any size. -/
structure Came (w : World) (t : TAct) (P X : Option Addr) : Prop where
  rune : -2147483648 ≤ t.rune ∧ t.rune ≤ 2147483647
  mark : 0 ≤ t.mark ∧ t.mark < 256
  final : 0 ≤ t.final ∧ t.final < 256
  params : ∀ n ∈ t.params, -9223372036854775808 ≤ n ∧ n ≤ 9223372036854775807
  text : ∀ x ∈ t.text, 0 ≤ x ∧ x < 256
  par : ReadI w .i64 P t.params
  txt : ReadI w .u8 X t.text
theorem Came.fits {w : World} {t : TAct} {P X : Option Addr} (h : Came w t P X) (h1 : t.params.length ≤ 1000) (h2 : t.text.length ≤ 16384) : Fits t := ⟨h.rune, h.mark, h.final, h.params, h.text, h1, h2⟩
theorem rd_lit (w : World) (n : Nat) (hn : n = w.heap.size) (t : TAct) (P X : Option Addr) (pc xc : Nat) (cs : Array Value) (hc : cs = (acell (t, .slice P t.params.length pc, .slice X t.text.length xc)).toArray) (hp : ReadI w .i64 P t.params) (hx : ReadI w .u8 X t.text) :
    RdA (w.alloc (.cells cs 25)) (some ⟨n, 0, none⟩) [(t, .slice P t.params.length pc, .slice X t.text.length xc)] := by
  subst hn hc
  refine ⟨?_, fun q hq => ?_, fun q hq => ?_⟩
  · have h := Blk.read (Blk.new w 25 (acell (t, .slice P t.params.length pc, .slice X t.text.length xc)).toArray)
    simpa using h
  · rw [List.mem_singleton.1 hq]; exact ⟨P, pc, rfl, hp.alloc _⟩
  · rw [List.mem_singleton.1 hq]; exact ⟨X, xc, rfl, hx.alloc _⟩
theorem sameB_true (A B : Option Addr) (n m c d : Nat) (xs : List Int) (w : World) (hn : n = xs.length) (hm : m = xs.length) (hx : ReadI w .u8 A xs) (hy : ReadI w .u8 B xs) (hl : xs.length ≤ 1000000) :
    Calls Tryd.prog 9 #[.slice A n c, .slice B m d] w fun e w' => e = .returned (.bool true) ∧ ∃ k, w' = w.drewN k := by
  subst hn hm
  refine (sameB_any A B c d xs xs w hx hy (by omega) (by omega)).mono ?_
  rintro e w' ⟨rfl, h⟩
  exact ⟨by simp, h⟩
/-- The act's bytes of both, or the errors of both. -/
theorem two_ends {w w' v v' : World} {t : TAct} {e f : Ending} (h : LayEnd w t e w') (k : LayEnd v t f v') : ∃ (bs : List Int) (A B : Option Addr) (c d : Nat) (x : Int), bs.length ≤ 300 ∧ e = .returned (.tuple #[.slice A bs.length c, .int .i64 x]) ∧ f = .returned (.tuple #[.slice B bs.length d, .int .i64 x]) ∧ ReadI w' .u8 A bs ∧ ReadI v' .u8 B bs := by
  rcases h with ⟨h1, A, c, rfl, h3, _⟩ | ⟨h1, rfl, _⟩
  · rcases k with ⟨_, B, d, rfl, k3, _⟩ | ⟨k1, _, _⟩
    · exact ⟨layB t, A, B, c, d, 0, layB_len t h1, rfl, rfl, h3, k3⟩
    · exact absurd h1 k1
  · rcases k with ⟨k1, _⟩ | ⟨_, rfl, _⟩
    · exact absurd k1 h1
    · exact ⟨[], none, none, 0, 0, 1, by simp, rfl, rfl, ReadI.nil _ _ _, ReadI.nil _ _ _⟩
theorem LayEnd.below {w w' : World} {t : TAct} {e : Ending} (h : LayEnd w t e w') : Below w.heap.size w w' := by
  rcases h with ⟨_, _, _, _, _, h⟩ | ⟨_, _, h⟩ <;> exact h
theorem LayEnd.ends {w w' : World} {t : TAct} {e : Ending} (h : LayEnd w t e w') : ∃ (n : Nat) (A : Option Addr) (c : Nat) (x : Int), e = .returned (.tuple #[.slice A n c, .int .i64 x]) := by
  rcases h with ⟨_, A, c, e, _⟩ | ⟨_, e, _⟩
  · exact ⟨_, A, c, 0, e⟩
  · exact ⟨0, none, 0, 1, e⟩
set_option maxRecDepth 100000 in
set_option maxHeartbeats 1000000 in
theorem plays_any (t : TAct) (P X : Option Addr) (pc xc : Nat) (w : World) (hc : Came w t P X) (hP : Pow w) (hl1 : t.params.length ≤ 9223372036854775807) (hl2 : t.text.length ≤ 9223372036854775807) :
    Calls Tryd.prog 3 #[actV t P X pc xc] w fun e w' => e = .returned (.bool true) ∧ Below w.heap.size w w' := by
  by_cases h1 : t.params.length ≤ 1000
  · have d1 : decide ((1000 : Int) < ((t.params.length : Nat) : Int)) = false := decide_eq_false (by omega)
    by_cases h2 : t.text.length ≤ 16384
    · have hf := hc.fits h1 h2
      have d2 : decide ((16384 : Int) < ((t.text.length : Nat) : Int)) = false := decide_eq_false (by omega)
      have HC := Lib.hid hc
      have HF := Lib.hid hf
      have HP := Lib.hid hP
      clear hc hf hP
      go_enter Tryd.func3, Tryd.ntmps3
      go_wp2_with fail
      have hb0 : Below w.heap.size w (w.alloc (.cells #[.int .i64 t.kind, .int .i32 t.rune, .int .u8 t.mark, .int .u8 t.final, .slice P t.params.length pc, .slice X t.text.length xc] 25)) := below_alloc (Below.refl _ _) _
      refine (acopy_any t P X pc xc _ HF.out (HC.out.par.under hb0) (HC.out.txt.under hb0)).mono ?_
      rintro e w2 ⟨P2, X2, pc2, xc2, rfl, hp2, hx2, hb2⟩
      have hk2 := (Blk.new w 25 #[.int .i64 t.kind, .int .i32 t.rune, .int .u8 t.mark, .int .u8 t.final, .slice P t.params.length pc, .slice X t.text.length xc]).under hb2
      have hB2 := hb0.trans (hb2.mono hb0.size)
      have HP2 := Lib.hid hp2
      have HX2 := Lib.hid hx2
      have HK2 := Lib.hid hk2
      have HB2 := Lib.hid hB2
      clear hp2 hx2 hb2 hk2 hB2 hb0
      go_wp2_with fail
      have hb3 := below_alloc (Below.refl w2.heap.size w2) (.cells #[.int .i64 t.kind, .int .i32 t.rune, .int .u8 t.mark, .int .u8 t.final, .slice P2 t.params.length pc2, .slice X2 t.text.length xc2] 25)
      refine (lay_any t P2 X2 pc2 xc2 _ HF.out ((HP.out.under HB2.out).under hb3) (HP2.out.under hb3) (HX2.out.under hb3)).mono ?_
      intro e w4 he
      have hb4 := he.below
      obtain ⟨n1, A1, c1, x1, rfl⟩ := he.ends
      have hk4 := (HK2.out.under hb3).under hb4
      have ho4 := (Blk.new w2 25 #[.int .i64 t.kind, .int .i32 t.rune, .int .u8 t.mark, .int .u8 t.final, .slice P2 t.params.length pc2, .slice X2 t.text.length xc2]).under hb4
      have hB4 := HB2.out.trans ((hb3.trans (hb4.mono hb3.size)).mono HB2.out.size)
      have hp4 := (HP2.out.under hb3).under hb4
      have hx4 := (HX2.out.under hb3).under hb4
      have y0 : w4.cell? ⟨w.heap.size, 0, none⟩ = some (.int .i64 t.kind) := hk4.cell 0
      have y1 : w4.cell? ⟨w.heap.size, 1, none⟩ = some (.int .i32 t.rune) := hk4.cell 1
      have y2 : w4.cell? ⟨w.heap.size, 2, none⟩ = some (.int .u8 t.mark) := hk4.cell 2
      have y3 : w4.cell? ⟨w.heap.size, 3, none⟩ = some (.int .u8 t.final) := hk4.cell 3
      have y4 : w4.cell? ⟨w.heap.size, 4, none⟩ = some (.slice P t.params.length pc) := hk4.cell 4
      have y5 : w4.cell? ⟨w.heap.size, 5, none⟩ = some (.slice X t.text.length xc) := hk4.cell 5
      have HE := Lib.hid he
      have HK4 := Lib.hid hk4
      have HO4 := Lib.hid ho4
      have HB4 := Lib.hid hB4
      have HP4 := Lib.hid hp4
      have HX4 := Lib.hid hx4
      clear he hb3 hb4 hk4 ho4 hB4 hp4 hx4
      go_wp2_with fail
      refine (rlay_any t P X pc xc w4 HF.out (HC.out.par.under HB4.out) (HC.out.txt.under HB4.out)).mono ?_
      intro e w5 he2
      have hb5 := he2.below
      obtain ⟨bs, A, B, c, d, x, hbl, e1, e2, hr1, hr2⟩ := two_ends HE.out he2
      injection e1 with e1
      injection e1 with e1
      simp only [Array.mk.injEq, List.cons.injEq, Value.slice.injEq, Value.int.injEq, and_true, true_and] at e1
      obtain ⟨⟨rfl, rfl, rfl⟩, rfl⟩ := e1
      subst e2
      have hk5 := HK4.out.under hb5
      have ho5 := HO4.out.under hb5
      have hB5 := HB4.out.trans (hb5.mono HB4.out.size)
      have hp5 := HP4.out.under hb5
      have hx5 := HX4.out.under hb5
      have hr1' := hr1.under hb5
      have HK5 := Lib.hid hk5
      have HO5 := Lib.hid ho5
      have HB5 := Lib.hid hB5
      have HP5 := Lib.hid hp5
      have HX5 := Lib.hid hx5
      have HR1 := Lib.hid hr1'
      have HR2 := Lib.hid hr2
      have hxx : (x1 == x1) = true := beq_self_eq_true x1
      clear he2 hb5 hk5 ho5 hB5 hp5 hx5 hr1' hr1 hr2 y0 y1 y2 y3 y4 y5
      go_wp2_with fail
      refine (pfixed_any w5).mono ?_
      rintro e w6 ⟨rfl, hb6⟩
      have hk6 := HK5.out.under hb6
      have ho6 := HO5.out.under hb6
      have hB6 := HB5.out.trans (hb6.mono HB5.out.size)
      have hp6 := HP5.out.under hb6
      have hx6 := HX5.out.under hb6
      have hr6 := HR1.out.under hb6
      have hs6 := HR2.out.under hb6
      have HK6 := Lib.hid hk6
      have HO6 := Lib.hid ho6
      have HB6 := Lib.hid hB6
      have HP6 := Lib.hid hp6
      have HX6 := Lib.hid hx6
      have HR6 := Lib.hid hr6
      have HS6 := Lib.hid hs6
      clear hb6 hk6 ho6 hB6 hp6 hx6 hr6 hs6
      go_wp2_with fail
      refine (sameB_true A1 B _ _ c1 d bs w6 rfl rfl HR6.out HS6.out (by omega)).mono ?_
      rintro e w7 ⟨rfl, m, rfl⟩
      have z0 : w6.cell? ⟨w.heap.size, 0, none⟩ = some (.int .i64 t.kind) := HK6.out.cell 0
      have z1 : w6.cell? ⟨w.heap.size, 1, none⟩ = some (.int .i32 t.rune) := HK6.out.cell 1
      have z2 : w6.cell? ⟨w.heap.size, 2, none⟩ = some (.int .u8 t.mark) := HK6.out.cell 2
      have z3 : w6.cell? ⟨w.heap.size, 3, none⟩ = some (.int .u8 t.final) := HK6.out.cell 3
      have z4 : w6.cell? ⟨w.heap.size, 4, none⟩ = some (.slice P t.params.length pc) := HK6.out.cell 4
      have z5 : w6.cell? ⟨w.heap.size, 5, none⟩ = some (.slice X t.text.length xc) := HK6.out.cell 5
      have o0 : w6.cell? ⟨w2.heap.size, 0, none⟩ = some (.int .i64 t.kind) := HO6.out.cell 0
      have o1 : w6.cell? ⟨w2.heap.size, 1, none⟩ = some (.int .i32 t.rune) := HO6.out.cell 1
      have o2 : w6.cell? ⟨w2.heap.size, 2, none⟩ = some (.int .u8 t.mark) := HO6.out.cell 2
      have o3 : w6.cell? ⟨w2.heap.size, 3, none⟩ = some (.int .u8 t.final) := HO6.out.cell 3
      have o4 : w6.cell? ⟨w2.heap.size, 4, none⟩ = some (.slice P2 t.params.length pc2) := HO6.out.cell 4
      have o5 : w6.cell? ⟨w2.heap.size, 5, none⟩ = some (.slice X2 t.text.length xc2) := HO6.out.cell 5
      have hlt6 : w.heap.size < w6.heap.size := HK6.out.lt
      have hlo6 : w2.heap.size < w6.heap.size := HO6.out.lt
      have q0 : ∀ o, ((w6.drewN m).alloc o).cell? ⟨w.heap.size, 0, none⟩ = some (.int .i64 t.kind) := fun o => ((HK6.out.drewN m).alloc o).cell 0
      have q1 : ∀ o, ((w6.drewN m).alloc o).cell? ⟨w.heap.size, 1, none⟩ = some (.int .i32 t.rune) := fun o => ((HK6.out.drewN m).alloc o).cell 1
      have q2 : ∀ o, ((w6.drewN m).alloc o).cell? ⟨w.heap.size, 2, none⟩ = some (.int .u8 t.mark) := fun o => ((HK6.out.drewN m).alloc o).cell 2
      have q3 : ∀ o, ((w6.drewN m).alloc o).cell? ⟨w.heap.size, 3, none⟩ = some (.int .u8 t.final) := fun o => ((HK6.out.drewN m).alloc o).cell 3
      have q4 : ∀ o, ((w6.drewN m).alloc o).cell? ⟨w.heap.size, 4, none⟩ = some (.slice P t.params.length pc) := fun o => ((HK6.out.drewN m).alloc o).cell 4
      have q5 : ∀ o, ((w6.drewN m).alloc o).cell? ⟨w.heap.size, 5, none⟩ = some (.slice X t.text.length xc) := fun o => ((HK6.out.drewN m).alloc o).cell 5
      have hne6 : w.heap.size ≠ w6.heap.size := by omega
      have hno6 : w2.heap.size ≠ w6.heap.size := by omega
      have hL : RdA (((w6.drewN m).alloc (.cells #[.int .i64 t.kind, .int .i32 t.rune, .int .u8 t.mark, .int .u8 t.final, .slice P2 t.params.length pc2, .slice X2 t.text.length xc2] 25)).alloc (.cells #[.int .i64 t.kind, .int .i32 t.rune, .int .u8 t.mark, .int .u8 t.final, .slice P t.params.length pc, .slice X t.text.length xc] 25)) (some ⟨w6.heap.size, 0, none⟩) [(t, .slice P2 t.params.length pc2, .slice X2 t.text.length xc2)] :=
        (rd_lit (w6.drewN m) w6.heap.size rfl t P2 X2 pc2 xc2 _ rfl HP6.out HX6.out).under (below_alloc (Below.refl _ _) _)
      have hM : RdA (((w6.drewN m).alloc (.cells #[.int .i64 t.kind, .int .i32 t.rune, .int .u8 t.mark, .int .u8 t.final, .slice P2 t.params.length pc2, .slice X2 t.text.length xc2] 25)).alloc (.cells #[.int .i64 t.kind, .int .i32 t.rune, .int .u8 t.mark, .int .u8 t.final, .slice P t.params.length pc, .slice X t.text.length xc] 25)) (some ⟨w6.heap.size + 1, 0, none⟩) [(t, .slice P t.params.length pc, .slice X t.text.length xc)] :=
        rd_lit ((w6.drewN m).alloc (.cells #[.int .i64 t.kind, .int .i32 t.rune, .int .u8 t.mark, .int .u8 t.final, .slice P2 t.params.length pc2, .slice X2 t.text.length xc2] 25)) (w6.heap.size + 1) (by simp) t P X pc xc _ rfl ((HC.out.par.under (below_drewN HB6.out m)).alloc _) ((HC.out.txt.under (below_drewN HB6.out m)).alloc _)
      have hB8 : Below w.heap.size w (((w6.drewN m).alloc (.cells #[.int .i64 t.kind, .int .i32 t.rune, .int .u8 t.mark, .int .u8 t.final, .slice P2 t.params.length pc2, .slice X2 t.text.length xc2] 25)).alloc (.cells #[.int .i64 t.kind, .int .i32 t.rune, .int .u8 t.mark, .int .u8 t.final, .slice P t.params.length pc, .slice X t.text.length xc] 25)) := below_alloc (below_alloc (below_drewN HB6.out m) _) _
      have HL := Lib.hid hL
      have HM := Lib.hid hM
      have HB8 := Lib.hid hB8
      clear hL hM hB8
      go_wp2_with fail
      refine (sameA_true _ _ 1 1 _ _ [(t, .slice P2 t.params.length pc2, .slice X2 t.text.length xc2)] [(t, .slice P t.params.length pc, .slice X t.text.length xc)] _ rfl rfl HL.out HM.out rfl (fun q hq => by rw [List.mem_singleton.1 hq]; exact ⟨by simp only; omega, by simp only; omega⟩) (by simp)).mono ?_
      rintro e w9 ⟨rfl, hb9⟩
      have hB9 := HB8.out.trans (hb9.mono HB8.out.size)
      have HB9 := Lib.hid hB9
      clear hb9 hB9
      go_wp2_with fail
      go_ret
      exact ⟨rfl, HB9.out⟩
    · have d2 : decide ((16384 : Int) < ((t.text.length : Nat) : Int)) = true := decide_eq_true (by omega)
      clear hc hP
      go_enter Tryd.func3, Tryd.ntmps3
      go_wp2_with fail
      refine (pfixed_any _).mono ?_
      rintro e w1 ⟨rfl, hb1⟩
      have hB := (below_alloc (Below.refl w.heap.size w) (.cells #[.int .i64 t.kind, .int .i32 t.rune, .int .u8 t.mark, .int .u8 t.final, .slice P t.params.length pc, .slice X t.text.length xc] 25)).trans (hb1.mono (by simp))
      have HB := Lib.hid hB
      clear hb1 hB
      go_wp2_with fail
      go_ret
      exact ⟨rfl, HB.out⟩
  · have d1 : decide ((1000 : Int) < ((t.params.length : Nat) : Int)) = true := decide_eq_true (by omega)
    clear hc hP
    go_enter Tryd.func3, Tryd.ntmps3
    go_wp2_with fail
    refine (pfixed_any _).mono ?_
    rintro e w1 ⟨rfl, hb1⟩
    have hB := (below_alloc (Below.refl w.heap.size w) (.cells #[.int .i64 t.kind, .int .i32 t.rune, .int .u8 t.mark, .int .u8 t.final, .slice P t.params.length pc, .slice X t.text.length xc] 25)).trans (hb1.mono (by simp))
    have HB := Lib.hid hB
    clear hb1 hB
    go_wp2_with fail
    go_ret
    exact ⟨rfl, HB.out⟩
end Go.Proofs.YtijjnpegokfidaaDoor
