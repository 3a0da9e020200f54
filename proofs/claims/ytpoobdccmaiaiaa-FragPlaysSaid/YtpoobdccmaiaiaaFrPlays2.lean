/- The walk of the law FragPlays: the loop. -/
import Derived.Test.YtpoobdccmaiaiaaFrPlays
namespace Go.Proofs.Ytpoobdccmaiaiaa
open Go.RowKit
open Frag
set_option linter.unusedVariables false
set_option linter.unusedSimpArgs false

/-- Behind the two Takes and the comparisons, ahead of the two loops that turn what was handed over. -/
structure PT (w : World) (gm : Nat) (s : JS) (L : List (PV × Value)) (E : List (Int × Value × List Int)) (A : Option Addr) (c : Nat) (g7 : Nat) (t : PV) (A6 : Option Addr) (c6 : Nat) (A8 : Option Addr) (n8 : Nat) (wx : World) : Prop where
  pr : PR w gm s L E A c wx
  box : Blk wx g7 34 (partC t A6 t.bs.length c6)
  a6 : Ints wx (g7 + 1) .u8 A6 t.bs.length
  a8 : Ints wx (g7 + 1) .u8 A8 n8
/-- The blocks that the loops write are none of the others. -/
structure PF (gm : Nat) (L : List (PV × Value)) (E : List (Int × Value × List Int)) (A : Option Addr) (c : Nat) (g7 : Nat) (A6 : Option Addr) (n6 : Nat) (A8 : Option Addr) (n8 : Nat) : Prop where
  gm : gm < g7
  e6 : ∀ g o, A6 = some ⟨g, o, none⟩ → (∀ e ∈ E, e.2.1.ownBlock ≠ some g) ∧ (Value.slice A L.length c).ownBlock ≠ some g
  e8 : 0 < n8 → ∀ g o, A8 = some ⟨g, o, none⟩ → (∀ e ∈ E, e.2.1.ownBlock ≠ some g) ∧ (Value.slice A L.length c).ownBlock ≠ some g
theorem PT.w6 {w : World} {gm : Nat} {s : JS} {L : List (PV × Value)} {E : List (Int × Value × List Int)} {A : Option Addr} {c : Nat} {g7 : Nat} {t : PV} {A6 : Option Addr} {c6 : Nat} {A8 : Option Addr} {n8 : Nat} {wx : World} (h : PT w gm s L E A c g7 t A6 c6 A8 n8 wx) (f : PF gm L E A c g7 A6 t.bs.length A8 n8) (j : Nat) (hj : j < t.bs.length) :
    ∃ g o x, A6 = some ⟨g, o, none⟩ ∧ wx.cell? ⟨g, o + j, none⟩ = some (.int .u8 x) ∧ wx.frozen? ⟨g, o + j, none⟩ = false ∧ ∀ y : Int, PT w gm s L E A c g7 t A6 c6 A8 n8 (wx.setCell ⟨g, o + j, none⟩ (.int .u8 y)) := by
  obtain ⟨g, o, rfl, hb, hc⟩ := h.a6 (by omega)
  obtain ⟨⟨x, hx⟩, hf⟩ := hc j hj
  refine ⟨g, o, x, rfl, hx, hf, fun y => ?_⟩
  have k : Keeps (fun i => i = g) wx (wx.setCell ⟨g, o + j, none⟩ (.int .u8 y)) := Keeps.setCell (S := fun i => i = g) (p := ⟨g, o + j, none⟩) (Keeps.refl _ _) (.inl rfl) _
  have e := f.e6 g o rfl
  have := f.gm
  exact ⟨h.pr.far k (by omega) e.1 e.2, k.blk h.box (by omega), h.a6.set_ _ _, h.a8.set_ _ _⟩
theorem PT.w8 {w : World} {gm : Nat} {s : JS} {L : List (PV × Value)} {E : List (Int × Value × List Int)} {A : Option Addr} {c : Nat} {g7 : Nat} {t : PV} {A6 : Option Addr} {c6 : Nat} {A8 : Option Addr} {n8 : Nat} {wx : World} (h : PT w gm s L E A c g7 t A6 c6 A8 n8 wx) (f : PF gm L E A c g7 A6 t.bs.length A8 n8) (j : Nat) (hj : j < n8) :
    ∃ g o x, A8 = some ⟨g, o, none⟩ ∧ wx.cell? ⟨g, o + j, none⟩ = some (.int .u8 x) ∧ wx.frozen? ⟨g, o + j, none⟩ = false ∧ ∀ y : Int, PT w gm s L E A c g7 t A6 c6 A8 n8 (wx.setCell ⟨g, o + j, none⟩ (.int .u8 y)) := by
  obtain ⟨g, o, rfl, hb, hc⟩ := h.a8 (by omega)
  obtain ⟨⟨x, hx⟩, hf⟩ := hc j hj
  refine ⟨g, o, x, rfl, hx, hf, fun y => ?_⟩
  have k : Keeps (fun i => i = g) wx (wx.setCell ⟨g, o + j, none⟩ (.int .u8 y)) := Keeps.setCell (S := fun i => i = g) (p := ⟨g, o + j, none⟩) (Keeps.refl _ _) (.inl rfl) _
  have e := f.e8 (by omega) g o rfl
  have := f.gm
  exact ⟨h.pr.far k (by omega) e.1 e.2, k.blk h.box (by omega), h.a6.set_ _ _, h.a8.set_ _ _⟩

set_option maxRecDepth 100000 in
set_option maxHeartbeats 4000000 in
theorem plays_any (C : Option Addr) (m d : Nat) (M : List (PV × Value)) (w : World) (hm : m = M.length) (hmb : m ≤ 9223372036854775807) (hM : PartsR w C M) (hMs : ∀ q ∈ M, q.1.bs.length ≤ 9223372036854775807) :
    Calls Try.prog 4 #[.slice C m d] w fun e w' => e = .returned (.bool true) ∧ Below w.heap.size w w' := by
  subst hm
  have HM := Lib.hid hM
  have HMS := Lib.hid hMs
  clear hM hMs
  go_enter Try.func4, Try.ntmps4
  go_wp2_with fail
  refine (new_any w).mono ?_
  rintro e w1 ⟨rfl, hJ, b1⟩
  have hz1 : w.heap.size + 2 ≤ w1.heap.size := hJ.size
  have hP1 : PR w w1.heap.size JS.start [] [] none 0 (w1.alloc (.cells #[.slice none 0 0] 40)) :=
    ⟨hJ.under (below_alloc (Below.refl _ _) _), JOk.start, Blk.new _ _ _, OwnR.nil _ _ _ _, (fun _ h => by cases h), b1.trans ((below_alloc (Below.refl _ _) _).mono b1.size), hz1⟩
  have HP1 := Lib.hid hP1
  clear hJ b1 hP1
  go_wp2_with fail
  refine (fixed_any _).mono ?_
  rintro e w2 ⟨rfl, b2⟩
  have HP2 := Lib.hid (HP1.out.under b2)
  clear b2
  go_wp2_with fail
  go_loopw [26] (fun i wr => ∃ (k : Nat) (s : JS) (L : List (PV × Value)) (E : List (Int × Value × List Int)) (A : Option Addr) (c : Nat), k ≤ M.length ∧ i = .int .i64 k ∧ L.length ≤ k ∧ PInv s (L.map (·.1)) ∧ PR w w1.heap.size s L E A c wr) (fun i _ => M.length - (intOf i).toNat)
  case atStart => exact ⟨0, JS.start, [], [], none, 0, Nat.zero_le _, rfl, Nat.le_refl _, .inl ⟨rfl, rfl⟩, HP2.out⟩
  case round =>
    obtain ⟨k, s, L, E, A, c, hk, rfl, hLk, hinv, hP⟩ := hrel
    have HP := Lib.hid hP
    have HINV := Lib.hid hinv
    clear hP hinv
    by_cases hlt : k < M.length
    · have i1 : (k : Int) < (M.length : Int) := by omega
      obtain ⟨t, ht⟩ : ∃ t, t = M[k].1 := ⟨_, rfl⟩
      have htl : t.bs.length ≤ 9223372036854775807 := by rw [ht]; exact HMS.out _ (List.getElem_mem hlt)
      obtain ⟨gb, o, B4, c4, rfl, q0, q1, q2, q3, hr4⟩ := part_at HM.out k hlt t ht.symm
      have hgb : gb < w.heap.size := World.block_lt_of_cell? w _ q0
      have q0' := (HP.out.below.cell (p := ⟨gb, o + k * 4, none⟩) hgb).trans q0
      have q1' := (HP.out.below.cell (p := ⟨gb, o + k * 4 + 1, none⟩) hgb).trans q1
      have q2' := (HP.out.below.cell (p := ⟨gb, o + k * 4 + 2, none⟩) hgb).trans q2
      have q3' := (HP.out.below.cell (p := ⟨gb, o + k * 4 + 3, none⟩) hgb).trans q3
      have HR4 := Lib.hid hr4
      clear hr4 ht q0 q1 q2 q3 hgb
      by_cases h200 : 200 < k
      · have d200 : decide (200 < (k : Int)) = true := decide_eq_true (by omega)
        go_wp2_with fail
        go_ret
        exact ⟨rfl, HP.out.below.trans ((below_alloc (Below.refl _ _) _).mono HP.out.below.size)⟩
      · have d200 : decide (200 < (k : Int)) = false := decide_eq_false (by omega)
        by_cases hbig : 1000 < t.bs.length
        · have d3 : decide (1000 < (t.bs.length : Int)) = true := decide_eq_true (by omega)
          go_wp2_with fail
          go_roundw
          case rel => exact ⟨k + 1, s, L, E, A, c, by omega, by go_num, by omega, HINV.out, HP.out.under (below_alloc (Below.refl _ _) _)⟩
          case measure => simp [intOf]; omega
        · have d3 : decide (1000 < (t.bs.length : Int)) = false := decide_eq_false (by omega)
          go_wp2_with fail
          have hP0 := HP.out
          have hgm := hP0.gm
          have hgl := hP0.lt
          have ha2 : Below wr.heap.size wr ((wr.alloc (.cells (partC t B4 t.bs.length c4) 34)).alloc (.cells (partC t B4 t.bs.length c4) 34)) := below_alloc (below_alloc (Below.refl _ _) _) _
          have hx6 : Blk ((wr.alloc (.cells (partC t B4 t.bs.length c4) 34)).alloc (.cells (partC t B4 t.bs.length c4) 34)) wr.heap.size 34 (partC t B4 t.bs.length c4) := (Blk.new _ _ _).alloc _
          have hx7 : Blk ((wr.alloc (.cells (partC t B4 t.bs.length c4) 34)).alloc (.cells (partC t B4 t.bs.length c4) 34)) (wr.heap.size + 1) 34 (partC t B4 t.bs.length c4) := by
            have := Blk.new (wr.alloc (.cells (partC t B4 t.bs.length c4) 34)) 34 (partC t B4 t.bs.length c4)
            simpa using this
          have HA2 := Lib.hid ha2
          have HX6 := Lib.hid hx6
          have HX7 := Lib.hid hx7
          clear ha2 hx6 hx7 hP0
          refine (copy_any B4 t.bs.length c4 t.bs _ rfl (HR4.out.under (HP.out.below.trans (HA2.out.mono HP.out.below.size))) (by omega)).mono ?_
          rintro e w3 ⟨A6, c6, rfl, o6, b3⟩
          have ho6 : OwnI w3 (wr.heap.size + 2) 5 .u8 (.slice A6 t.bs.length c6) t.bs := OwnI.mono o6 (by simp)
          have hx6 := HX6.out.under b3
          have hx7 := HX7.out.under b3
          have hz3 : wr.heap.size + 2 ≤ w3.heap.size := by have := b3.size; simp at this; omega
          have y0 : w3.cell? ⟨wr.heap.size + 1, 0, none⟩ = some (.int .u32 t.id) := hx7.cell 0
          have y1 : w3.cell? ⟨wr.heap.size + 1, 1, none⟩ = some (.int .i64 t.ix) := hx7.cell 1
          have y2 : w3.cell? ⟨wr.heap.size + 1, 2, none⟩ = some (.int .i64 t.ct) := hx7.cell 2
          have y3 : w3.cell? ⟨wr.heap.size + 1, 3, none⟩ = some (.slice B4 t.bs.length c4) := hx7.cell 3
          have fy3 : w3.frozen? ⟨wr.heap.size + 1, 3, none⟩ = false := hx7.frozen 3
          have k3 : Keeps (fun i => i = wr.heap.size + 1) w3 (w3.setCell ⟨wr.heap.size + 1, 3, none⟩ (.slice A6 t.bs.length c6)) := Keeps.setCell (S := fun i => i = wr.heap.size + 1) (p := ⟨wr.heap.size + 1, 3, none⟩) (Keeps.refl _ _) (.inl rfl) _
          have hb3 : Below wr.heap.size wr (w3.setCell ⟨wr.heap.size + 1, 3, none⟩ (.slice A6 t.bs.length c6)) := (HA2.out.trans (b3.mono (by simp; omega))).setCell (by simp) _
          have hP3 := HP.out.under hb3
          have HO6 := Lib.hid (k3.own ho6 (fun g hg => by have := (ho6.lt g hg).1; omega))
          have HG6 := Lib.hid ho6.lt
          have HX63 := Lib.hid (k3.blk hx6 (by omega))
          have HX73 := Lib.hid (hx7.s4_3 (.slice A6 t.bs.length c6))
          have HP3 := Lib.hid hP3
          have HB3 := Lib.hid hb3
          clear o6 ho6 hx6 hx7 k3 hb3 hP3 b3 q0' q1' q2' q3'
          go_wp2_with fail
          have hz3' : (w3.setCell ⟨wr.heap.size + 1, 3, none⟩ (.slice A6 t.bs.length c6)).heap.size = w3.heap.size := by simp
          refine (take_any2 t A6 t.bs.length c6 _ (w.heap.size + 2) (w.heap.size + 1) w.heap.size s E HP3.out.j HP3.out.ok rfl (by omega) HO6.out.read).mono ?_
          rintro e w4 ⟨A8, c8, E8, rfl, o8, hJ8, k8, hE8⟩
          have hz4 : w3.heap.size ≤ w4.heap.size := by have := k8.size; omega
          have hP4 : PR w w1.heap.size (s.take t).2 L E8 A c w4 := ⟨hJ8, JOk.take s t HP3.out.ok, k8.blk HP3.out.box (by omega), k8.row HP3.out.row (fun b hb e => by have := (HP3.out.row.blocks b hb).1; omega), HP3.out.bytes, k8.below HP3.out.below HP3.out.below.size (fun g hg => by omega), hgm⟩
          have hx64 := k8.blk HX63.out (by omega)
          have z0 : w4.cell? ⟨wr.heap.size, 0, none⟩ = some (.int .u32 t.id) := hx64.cell 0
          have z1 : w4.cell? ⟨wr.heap.size, 1, none⟩ = some (.int .i64 t.ix) := hx64.cell 1
          have z2 : w4.cell? ⟨wr.heap.size, 2, none⟩ = some (.int .i64 t.ct) := hx64.cell 2
          have z3 : w4.cell? ⟨wr.heap.size, 3, none⟩ = some (.slice B4 t.bs.length c4) := hx64.cell 3
          have zm : w4.cell? ⟨w1.heap.size, 0, none⟩ = some (.slice A L.length c) := hP4.box.cell 0
          have ho64 := k8.own HO6.out (fun g hg => by have := (HO6.out.lt g hg).1; omega)
          have HO64 := Lib.hid ho64
          have HX64 := Lib.hid hx64
          have HX74 := Lib.hid (k8.blk HX73.out (by omega))
          have HP4 := Lib.hid hP4
          have HO8 := Lib.hid o8
          have HE8 := Lib.hid hE8
          obtain ⟨hans, hnext⟩ := play_step s (L.map (·.1)) t HINV.out
          have hout8 := take_out s t
          have hol := take_out_len s t HP.out.ok
          have HOUT8 := Lib.hid hout8
          have HNEXT := Lib.hid hnext
          obtain ⟨a, ha⟩ : ∃ a, a = (s.take t).1 := ⟨_, rfl⟩
          rw [← ha] at HO8 hans HOUT8 hol ⊢
          have HANS := Lib.hid hans
          have HA := Lib.hid ha
          clear hJ8 k8 o8 hE8 hP4 hx64 ho64 hout8 hnext hans ha y0 y1 y2 y3 fy3
          go_wp2_with fail
          refine (rtake_any t B4 t.bs.length c4 w4 A c L HP4.out.parts (by omega) HP4.out.cap rfl (by omega) (HR4.out.under HP4.out.below) (fun q hq => by obtain ⟨_, _, _, _, h⟩ := HP4.out.bytes q hq; exact h)).mono ?_
          rintro e w5 ⟨A9, c9, AT, nT, cT, rfl, o9, b5, hT⟩
          rw [← HANS.out] at o9 ⊢
          have v0 : w5.cell? ⟨w1.heap.size, 0, none⟩ = some (.slice A L.length c) := (HP4.out.box.under b5).cell 0
          have vf : w5.frozen? ⟨w1.heap.size, 0, none⟩ = false := (HP4.out.box.under b5).frozen 0
          have hgl4 := HP4.out.lt
          obtain ⟨L', hLm, hLl, rfl, hP5, hAT⟩ := PR.put HP4.out b5 HR4.out hT
          have k5 : Keeps (fun i => i = w1.heap.size) w5 (w5.setCell ⟨w1.heap.size, 0, none⟩ (.slice AT L'.length cT)) := Keeps.setCell (S := fun i => i = w1.heap.size) (p := ⟨w1.heap.size, 0, none⟩) (Keeps.refl _ _) (.inl rfl) _
          have hx65 := k5.blk (HX64.out.under b5) (by omega)
          have hx75 := k5.blk (HX74.out.under b5) (by omega)
          have ho85 := k5.own (HO8.out.under b5) (fun g hg => by have := (HO8.out.lt g hg).1; omega)
          have ho95 := k5.own o9 (fun g hg => by have := (o9.lt g hg).1; omega)
          have ho65 := k5.own (HO64.out.under b5) (fun g hg => by have := (HO64.out.lt g hg).1; omega)
          have HX65 := Lib.hid hx65
          have HX75 := Lib.hid hx75
          have HO85 := Lib.hid ho85
          have HO95 := Lib.hid ho95
          have HO65 := Lib.hid ho65
          have HP5 := Lib.hid hP5
          have HAT := Lib.hid hAT
          have HLM := Lib.hid hLm
          have hal : a.out.length ≤ 100000 := by omega
          have de : (a.er != a.er) = false := by simp
          have dk : (a.ok != a.ok) = false := by cases a.ok <;> rfl
          clear k5 hx65 hx75 ho85 ho95 ho65 hP5 hAT hLm hT o9 b5 z0 z1 z2 z3 zm
          go_wp2_with fail
          refine (sameB_dec A8 A9 c8 c9 _ _ a.out a.out _ true rfl rfl HO85.out.read HO95.out.read (by omega) (by omega) (by simp)).mono ?_
          rintro e w6 ⟨rfl, b6⟩
          have s3 : w6.cell? ⟨wr.heap.size, 3, none⟩ = some (.slice B4 t.bs.length c4) := (HX65.out.under b6).cell 3
          have s7 : w6.cell? ⟨wr.heap.size + 1, 3, none⟩ = some (.slice A6 t.bs.length c6) := (HX75.out.under b6).cell 3
          have hP6 := HP5.out.under b6
          have hx76 := HX75.out.under b6
          have ho86 := HO85.out.under b6
          have ho66 := HO65.out.under b6
          have HP6 := Lib.hid hP6
          have HX76 := Lib.hid hx76
          have HO86 := Lib.hid ho86
          have HO66 := Lib.hid ho66
          clear b6 hP6 hx76 ho86 ho66 v0 vf
          go_wp2_with fail
          refine (sameB_dec A6 B4 c6 c4 _ _ t.bs t.bs w6 true rfl rfl HO66.out.read (HR4.out.under HP6.out.below) (by omega) (by omega) (by simp)).mono ?_
          rintro e w7 ⟨rfl, b7⟩
          have hPT : PT w w1.heap.size (s.take t).2 L' E8 AT cT (wr.heap.size + 1) t A6 c6 A8 a.out.length w7 :=
            ⟨HP6.out.under b7, HX76.out.under b7, OwnI.ints (HO66.out.under b7) rfl, Ints.mono (OwnI.ints (HO86.out.under b7) rfl) (by omega)⟩
          have hPF : PF w1.heap.size L' E8 AT cT (wr.heap.size + 1) A6 t.bs.length A8 a.out.length := by
            refine ⟨by omega, fun g o hA => ?_, fun hn g o hA => ?_⟩
            · have h6 := HG6.out g (by rw [hA]; rfl)
              refine ⟨fun e he hg => ?_, fun hg => ?_⟩
              · rcases HE8.out e he with h | h
                · have := ((HP.out.j.own e h).lt g hg).2
                  omega
                · have := h g hg
                  omega
              · rcases HAT.out g hg with h | h
                · have := (HP.out.row.blocks g h).2
                  omega
                · omega
            · have h8 := HO8.out.lt g (by rw [hA]; rfl)
              refine ⟨fun e he hg => ?_, fun hg => ?_⟩
              · have hes := HOUT8.out (by intro h; rw [h] at hn; simp at hn)
                rw [HP4.out.j.es] at hes
                rw [bytesOf_nil hes] at he
                cases he
              · rcases HAT.out g hg with h | h
                · have := (HP.out.row.blocks g h).2
                  omega
                · omega
          have hinv' : PInv (s.take t).2 (L'.map (·.1)) := by rw [HLM.out]; exact HNEXT.out
          have HPT := Lib.hid hPT
          have HPF := Lib.hid hPF
          have HINV' := Lib.hid hinv'
          have u3 : w7.cell? ⟨wr.heap.size + 1, 3, none⟩ = some (.slice A6 t.bs.length c6) := hPT.box.cell 3
          clear hPT hPF hinv' b7 s3 s7
          go_wp2_with fail
          obtain ⟨wo, rfl⟩ : ∃ wo : World, wo = wr := ⟨_, rfl⟩
          go_loopw [82] (fun i wr => ∃ j : Nat, j ≤ t.bs.length ∧ i = .int .i64 j ∧ PT w w1.heap.size (s.take t).2 L' E8 AT cT (wo.heap.size + 1) t A6 c6 A8 a.out.length wr) (fun i _ => t.bs.length - (intOf i).toNat)
          case atStart => exact ⟨0, Nat.zero_le _, rfl, HPT.out⟩
          case round =>
            obtain ⟨j, hj, rfl, hpt⟩ := hrel
            have HPTJ := Lib.hid hpt
            clear hpt
            by_cases hlj : j < t.bs.length
            · obtain ⟨g, o6, x, hA6, hcx, hf, hset⟩ := HPTJ.out.w6 HPF.out j hlj
              have u3' : wr.cell? ⟨wo.heap.size + 1, 3, none⟩ = some (.slice (some ⟨g, o6, none⟩) t.bs.length c6) := by rw [← hA6]; exact HPTJ.out.box.cell 3
              have i2 : (j : Int) < (t.bs.length : Int) := by omega
              have HSET := Lib.hid hset
              clear hset hA6
              go_wp2_with fail
              go_roundw
              case rel => exact ⟨j + 1, by omega, by go_num, HSET.out _⟩
              case measure => simp [intOf]; omega
            · go_wp2_with fail
              obtain ⟨w8, rfl⟩ : ∃ w8 : World, w8 = wr := ⟨_, rfl⟩
              go_loopw [95] (fun i wr => ∃ j : Nat, j ≤ a.out.length ∧ i = .int .i64 j ∧ PT w w1.heap.size (s.take t).2 L' E8 AT cT (wo.heap.size + 1) t A6 c6 A8 a.out.length wr) (fun i _ => a.out.length - (intOf i).toNat)
              case atStart => exact ⟨0, Nat.zero_le _, rfl, HPTJ.out⟩
              case round =>
                obtain ⟨j2, hj2, rfl, hpt⟩ := hrel
                have HPT2 := Lib.hid hpt
                clear hpt
                by_cases hlj2 : j2 < a.out.length
                · obtain ⟨g, o8, x, rfl, hcx, hf, hset⟩ := HPT2.out.w8 HPF.out j2 hlj2
                  have i2 : (j2 : Int) < (a.out.length : Int) := by omega
                  have HSET := Lib.hid hset
                  clear hset
                  go_wp2_with fail
                  go_roundw
                  case rel => exact ⟨j2 + 1, by omega, by go_num, HSET.out _⟩
                  case measure => simp [intOf]; omega
                · go_wp2_with fail
                  go_roundw
                  case rel => exact ⟨k + 1, (s.take t).2, L', E8, AT, cT, by omega, by go_num, by omega, HINV'.out, HPT2.out.pr⟩
                  case measure => simp [intOf]; omega
    · go_wp2_with fail
      go_ret
      exact ⟨rfl, HP.out.below⟩
end Go.Proofs.Ytpoobdccmaiaiaa
