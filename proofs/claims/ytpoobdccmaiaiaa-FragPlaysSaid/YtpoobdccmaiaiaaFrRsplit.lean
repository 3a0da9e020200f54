/- The walk of the document's Split. -/
import Derived.Test.YtpoobdccmaiaiaaFrSplit3
namespace Go.Proofs.Ytpoobdccmaiaiaa
open Go.RowKit
open Frag
set_option linter.unusedVariables false
set_option linter.unusedSimpArgs false

theorem Parts.lit0 (w : World) (base : Nat) (hb : base ≤ w.heap.size) : Parts (w.alloc (.cells #[] 34)) base (.slice (some ⟨w.heap.size, 0, none⟩) 0 0) [] :=
  ⟨⟨rfl, .inr ⟨w.heap.size, 0, #[], rfl, hb, heap_alloc_new w _, Nat.le_refl _, by simp [maxLen], rfl, rfl⟩⟩, (fun _ h => by cases h), (fun _ h => by cases h)⟩

/-- The first loop's end: all parts, their count not yet set. -/
def RS (id : Int) (b : List Int) (w : World) (m : Nat) (v : Value) (wr : World) : Prop :=
  ∃ (A' : Option Addr) (c' : Nat) (L : List (PV × Value)), v = .slice A' L.length c' ∧ L.length = m ∧ L.map (·.1) = Frag.parts id b 0 m ∧ Parts wr w.heap.size (.slice A' L.length c') L ∧ Below w.heap.size w wr

namespace Frag
def setct (m k : Nat) (L : List (PV × Value)) : List (PV × Value) := (L.take k).map (fun q => (({ q.1 with ct := m } : PV), q.2)) ++ L.drop k
theorem setct_zero (m : Nat) (L : List (PV × Value)) : setct m 0 L = L := by simp [setct]
theorem setct_len (m k : Nat) (L : List (PV × Value)) : (setct m k L).length = L.length := by simp [setct]; omega
theorem setct_at (m k : Nat) (L : List (PV × Value)) (h : k < L.length) : (setct m k L)[k]? = some L[k] := by
  unfold setct
  rw [List.getElem?_append_right (by simp; omega)]
  simp [Nat.min_eq_left (Nat.le_of_lt h), h]
theorem setct_succ (m : Nat) : ∀ (k : Nat) (L : List (PV × Value)) (h : k < L.length), (setct m k L).set k (({ L[k].1 with ct := m } : PV), L[k].2) = setct m (k + 1) L
  | _, [], h => by simp at h
  | 0, q :: L, _ => by simp [setct]
  | k + 1, q :: L, h => by
    have := setct_succ m k L (by simpa using h)
    simp [setct] at this ⊢
    exact this
theorem setct_all (m : Nat) (L : List (PV × Value)) : setct m L.length L = L.map (fun q => (({ q.1 with ct := m } : PV), q.2)) := by simp [setct]
theorem setct_parts (id : Int) (b : List Int) (m k : Nat) (L : List (PV × Value)) (h : L.map (·.1) = parts id b 0 k) : (L.map (fun q => (({ q.1 with ct := m } : PV), q.2))).map (·.1) = parts id b m k := by
  have : (L.map (fun q => (({ q.1 with ct := m } : PV), q.2))).map (·.1) = (L.map (·.1)).map (fun p : PV => { p with ct := m }) := by simp
  rw [this, h]
  simp [parts]
end Frag
set_option maxRecDepth 100000 in
set_option maxHeartbeats 1000000 in
theorem rsplit_fits (id : Int) (A : Option Addr) (n c : Nat) (b : List Int) (w : World) (hn : n = b.length) (hcap : n ≤ c) (hx : ReadI w .u8 A b) (hl : b.length ≤ 57344) (hne : b ≠ []) :
    Calls Try.prog 10 #[.int .u32 id, .slice A n c] w fun e w' => ∃ A' c' L, e = .returned (.tuple #[.slice A' L.length c', .int .i64 0]) ∧ L.map (·.1) = Frag.parts id b (Frag.count b) (Frag.count b) ∧ Parts w' w.heap.size (.slice A' L.length c') L ∧ Below w.heap.size w w' := by
  subst hn
  have HX := Lib.hid hx
  have hb0 : 0 < b.length := List.length_pos_iff.2 hne
  obtain ⟨m, hm⟩ : ∃ m, m = Frag.count b := ⟨_, rfl⟩
  have hm1 : 1 ≤ m ∧ m ≤ 128 ∧ (b.length : Int) ≤ 448 * m ∧ (448 * (m - 1 : Nat) : Int) < b.length := by
    rw [hm]; unfold Frag.count; omega
  rw [← hm]
  have hP0 := Parts.lit0 w w.heap.size (Nat.le_refl _)
  have hb1 := below_alloc (Below.refl w.heap.size w) (.cells #[] 34)
  have HP0 := Lib.hid hP0
  have HB1 := Lib.hid hb1
  have d0 : decide (57344 < (b.length : Int)) = false := decide_eq_false (by omega)
  clear hx hP0 hb1 hm
  go_enter Try.func10, Try.ntmps10
  go_wp2_with fail
  go_loopw [6, 7] (fun v i wr => ∃ k : Nat, k ≤ m ∧ i = .int .i64 (448 * k : Nat) ∧ RS id b w k v wr) (fun _ i _ => 448 * m - (intOf i).toNat)
  case atStart => exact ⟨0, Nat.zero_le _, rfl, some ⟨w.heap.size, 0, none⟩, 0, [], rfl, rfl, rfl, HP0.out, HB1.out⟩
  case round =>
    obtain ⟨k, hk, rfl, A1, c1, L, rfl, hL, hmap, hP, hbel⟩ := hrel
    have HLK := Lib.hid hL
    have HMAP := Lib.hid hmap
    clear hL hmap HP0 HB1
    by_cases hlt : k < m
    · obtain ⟨b0, o0, rfl, hc⟩ := HX.out hne
      have hlo : k * 448 < b.length := by omega
      have hlen : (Frag.chunk b k).length = min 448 (b.length - k * 448) := by unfold Frag.chunk; rw [List.length_take, List.length_drop]
      have hr : ReadI wr .u8 (some ⟨b0, o0 + k * 448, none⟩) (Frag.chunk b k) := ((HX.out.drop (k * 448) hlo).take 448).under hbel
      obtain ⟨p, hp⟩ : ∃ p, p = k * 448 := ⟨_, rfl⟩
      rw [show 448 * k = p by omega]
      rw [← hp] at hlo hlen hr
      have i1 : (p : Int) < (b.length : Int) := by omega
      have HP := Lib.hid hp
      have HCL := Lib.hid hlen
      clear hc hp hlen
      have hd : ((p : Int) == 0) = true ∨ ((p : Int) == 0) = false := by cases ((p : Int) == 0) <;> simp
      rcases hd with d1 | d1
      all_goals
        rcases Nat.lt_or_ge (p + 448) b.length with hh | hh
        all_goals
          go_wp2_with fail
          all_goals
            refine (copy_any _ _ _ (Frag.chunk b k) wr (by rw [HCL.out]; omega) hr (by rw [HCL.out]; omega)).mono ?_
            rintro e w2 ⟨A2, c2, rfl, o2, h2⟩
            have hP2 := hP.under h2
            have hb2 := hbel.trans (h2.mono hbel.size)
            have hP3 := hP2.under (below_alloc (Below.refl _ _) (.cells #[.int .u32 id, .int .i64 L.length, .int .i64 0, .slice A2 (Frag.chunk b k).length c2] 34))
            have hb3 := below_alloc hb2 (.cells #[.int .u32 id, .int .i64 L.length, .int .i64 0, .slice A2 (Frag.chunk b k).length c2] 34)
            have hap : Apart (.slice A1 L.length c1) (.slice A2 (Frag.chunk b k).length c2) := fun x hx hx2 => by
              have h1 := (hP.row.blocks x hx).2
              have h3 := (o2.lt x hx2).1
              omega
            have ho := (o2.mono hbel.size).alloc (.cells #[.int .u32 id, .int .i64 L.length, .int .i64 0, .slice A2 (Frag.chunk b k).length c2] 34)
            clear o2 h2 hP2
            go_wp2_with (at_builtin; first
              | (refine wpList_append_row _ rfl (.tmp 23) (.tmp 37) 26 34 4 48 rfl Try.underlying26 (by kernel_rfl) (by omega) (by omega) w.heap.size (.slice A1 L.length c1) L.length (L.flatMap cells) rfl hP3.row w2.heap.size (cells (⟨id, L.length, 0, Frag.chunk b k⟩, .slice A2 (Frag.chunk b k).length c2)) rfl (Blk.new _ _ _) rfl (by intro u hu; simp [cells] at hu; rcases hu with rfl | rfl | rfl | rfl <;> rfl) (by have := HLK.out; omega) hb3.size ?_; intro g cap w3 p1 p2 p3 p4))
            have hP4 := Parts.more hP3 (⟨id, L.length, 0, Frag.chunk b k⟩, .slice A2 (Frag.chunk b k).length c2) ho hap g cap p1 p2 p3
            have hmap : (L ++ [((⟨id, L.length, 0, Frag.chunk b k⟩ : PV), Value.slice A2 (Frag.chunk b k).length c2)]).map (·.1) = Frag.parts id b 0 (k + 1) := by
              rw [List.map_append, HMAP.out, HLK.out]
              unfold Frag.parts
              rw [List.range_succ, List.map_append]
              rfl
            have hb5 := below_of_only hb3 p2 hb3.size (fun x hx => (hP.row.blocks x hx).1)
            have hlen2 : (L ++ [((⟨id, L.length, 0, Frag.chunk b k⟩ : PV), Value.slice A2 (Frag.chunk b k).length c2)]).length = L.length + 1 := by simp
            refine ⟨⟨k + 1, by omega, ?_, some ⟨g, 0, none⟩, cap, _, by rw [hlen2], by rw [hlen2, HLK.out], hmap, by rw [hlen2]; exact hP4, hb5⟩, ?_⟩
            · rw [show ((448 * (k + 1) : Nat) : Int) = (p : Int) + 448 by have := HP.out; omega]
            · have := HP.out
              simp [intOf]
              omega
    · obtain rfl : k = m := by omega
      have hLp : 0 < L.length := by have := HLK.out; omega
      obtain ⟨g, cg, hv, hgb⟩ : ∃ g cg, Value.slice A1 L.length c1 = .slice (some ⟨g, 0, none⟩) L.length cg ∧ w.heap.size ≤ g := by
        rcases hP.row.2 with ⟨_, h0⟩ | ⟨g, cap, cur, hv, hb, _⟩
        · omega
        · exact ⟨g, cap, hv, hb⟩
      injection hv with e1 _ e3
      subst e1 e3
      have d1 : (((448 * k : Nat) : Int) == 0) = false := beq_eq_false_iff_ne.2 (by omega)
      have d2 : decide (((448 * k : Nat) : Int) < (b.length : Int)) = false := decide_eq_false (by omega)
      go_wp2_with fail
      go_loopw [41] (fun i wr => ∃ (j : Nat), j ≤ L.length ∧ i = .int .i64 j ∧ Parts wr w.heap.size (.slice (some ⟨g, 0, none⟩) L.length c1) (setct L.length j L) ∧ Below w.heap.size w wr) (fun i _ => L.length - (intOf i).toNat)
      case atStart => exact ⟨0, Nat.zero_le _, rfl, by rw [setct_zero]; exact hP, hbel⟩
      case round =>
        obtain ⟨j, hj, rfl, hPj, hbj⟩ := hrel
        by_cases hlt : j < L.length
        · have hcell : ∀ i, i < 4 → wr.cell? ⟨g, j * 4 + i, none⟩ = (cells L[j])[i]? := fun i hi => by
            have h1 := cells_at (setct L.length j L) j L[j] (setct_at _ _ _ hlt) i hi
            rw [World.ownsRow.cellAt (n := L.length) (by have := hPj.row; rwa [setct_len] at this) _ (by omega), h1]
          have c2 : wr.cell? ⟨g, j * 4 + 2, none⟩ = some (.int .i64 L[j].1.ct) := hcell 2 (by omega)
          have f2 : wr.frozen? ⟨g, j * 4 + 2, none⟩ = false := World.ownsRow.frozenAt (n := L.length) (by have := hPj.row; rwa [setct_len] at this) _
          have hP5 := hPj.count (by rw [setct_len]) j L[j] (setct_at _ _ _ hlt) L.length
          rw [setct_succ] at hP5
          have hb5 := hbj.setCell (p := ⟨g, j * 4 + 2, none⟩) hgb (.int .i64 L.length)
          have HP5 := Lib.hid hP5
          have HB5 := Lib.hid hb5
          have i1 : (j : Int) < (L.length : Int) := by omega
          have i2 : (L.length : Int) ≤ 128 := by have := HLK.out; omega
          clear hcell hP5 hb5 hPj hbj
          go_wp2_with fail
          go_roundw
          case rel => exact ⟨j + 1, by omega, by go_num, HP5.out, HB5.out⟩
          case measure => simp [intOf]; omega
        · obtain rfl : j = L.length := by omega
          obtain rfl : L.length = k := HLK.out
          have hs := setct_parts id b L.length L.length L HMAP.out
          rw [setct_all] at hPj
          obtain ⟨L2, hL2⟩ : ∃ L2, L2 = L.map (fun q => (({ q.1 with ct := (L.length : Int) } : PV), q.2)) := ⟨_, rfl⟩
          have hl2 : L2.length = L.length := by rw [hL2]; simp
          rw [← hL2] at hs hPj
          go_wp2_with fail
          go_ret2
          exact ⟨some ⟨g, 0, none⟩, c1, L2, by rw [hl2]; rfl, hs, by rw [hl2]; exact hPj, hbj⟩
end Go.Proofs.Ytpoobdccmaiaiaa
