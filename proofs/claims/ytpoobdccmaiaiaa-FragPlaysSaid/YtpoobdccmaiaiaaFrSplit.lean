/- The walk of frag.Split. -/
import Derived.Test.YtpoobdccmaiaiaaFrMem
import Derived.Deep.DeepCutAuto
namespace Go.Proofs.Ytpoobdccmaiaiaa
open Go.RowKit
open Frag
set_option linter.unusedVariables false
set_option linter.unusedSimpArgs false

namespace Frag
def chunk (b : List Int) (i : Nat) : List Int := (b.drop (i * 448)).take 448
def parts (id : Int) (b : List Int) (n : Nat) (m : Nat) : List PV := (List.range m).map fun i : Nat => ⟨id, i, n, chunk b i⟩
def count (b : List Int) : Nat := max 1 ((b.length + 447) / 448)
end Frag

set_option maxRecDepth 100000 in
set_option maxHeartbeats 1000000 in
/-- What fits: the parts, in new memory. -/
theorem split_fits (id : Int) (A : Option Addr) (n c : Nat) (b : List Int) (w : World) (hn : n = b.length) (hcap : n ≤ c) (hx : ReadI w .u8 A b) (hl : b.length ≤ 57344) (hne : b ≠ []) :
    Calls Try.prog 9 #[.int .u32 id, .slice A n c] w fun e w' => ∃ A' c' L, e = .returned (.tuple #[.slice A' L.length c', .int .i64 0]) ∧ L.map (·.1) = Frag.parts id b (Frag.count b) (Frag.count b) ∧ Parts w' w.heap.size (.slice A' L.length c') L ∧ Below w.heap.size w w' := by
  subst hn
  have HX := Lib.hid hx
  have hb0 : 0 < b.length := List.length_pos_iff.2 hne
  obtain ⟨m, hm⟩ : ∃ m, m = Frag.count b := ⟨_, rfl⟩
  have hm1 : 1 ≤ m ∧ m ≤ 128 ∧ (b.length : Int) ≤ 448 * m ∧ (448 * (m - 1 : Nat) : Int) < b.length := by
    rw [hm]; unfold Frag.count; omega
  rw [← hm]
  clear hx
  go_enter Try.func9, Try.ntmps9
  go_upto_region 1 with (fail)
  go_cut [6] from 9 to 14 (fun s wx => s = .int .i64 m ∧ wx = w)
  case first =>
    go_wp2_with fail
    all_goals (go_meet)
    all_goals (exact ⟨by simp; unfold Frag.count at hm; omega, rfl⟩)
  case rest =>
    obtain ⟨rfl, rfl⟩ := hcut
    have d0 : decide (128 < (m : Int)) = false := decide_eq_false (by omega)
    clear hm
    go_wp2_with fail
    go_loopw [7, 18] (fun v i wr => ∃ (k : Nat) (A' : Option Addr) (c' : Nat) (L : List (PV × Value)), k ≤ m ∧ i = .int .i64 k ∧ v = .slice A' L.length c' ∧ L.length = k ∧ L.map (·.1) = Frag.parts id b m k ∧ Parts wr wc.heap.size (.slice A' L.length c') L ∧ Below wc.heap.size wc wr) (fun _ i _ => m - (intOf i).toNat)
    case atStart => exact ⟨0, none, 0, [], Nat.zero_le _, rfl, rfl, rfl, rfl, Parts.nil _ _, Below.refl _ _⟩
    case round =>
      obtain ⟨k, A1, c1, L, hk, rfl, rfl, hL, hmap, hP, hbel⟩ := hrel
      have HLK := Lib.hid hL
      have HMAP := Lib.hid hmap
      clear hL hmap
      by_cases hlt : k < m
      · obtain ⟨b0, o0, rfl, hc⟩ := HX.out hne
        have i1 : (k : Int) < (m : Int) := by omega
        have hlo : k * 448 < b.length := by omega
        have hlen : (Frag.chunk b k).length = min 448 (b.length - k * 448) := by unfold Frag.chunk; rw [List.length_take, List.length_drop]
        have hr := ((HX.out.drop (k * 448) hlo).take 448).under hbel
        clear hc
        rcases Nat.lt_or_ge ((k + 1) * 448) b.length with hh | hh
        · go_wp2_with (at_builtin; first
            | (refine wpList_append_to _ rfl (.const (.slice none 0 0)) (.tmp 34) 23 5 .u8 1 rfl Try.underlying23 (by kernel_rfl) (by omega) wc.heap.size (.slice none 0 0) [] rfl (OwnI.nil _ _ _ _) (some ⟨b0, o0 + k * 448, none⟩) _ ((k + 1) * 448 - k * 448) (Frag.chunk b k) rfl hr (by rw [hlen]; omega) ((k + 1) * 448 - k * 448) (Frag.chunk b k) rfl (by rw [hlen]; simp; omega) (by omega) hbel.size ?_; intro A2 c2 w2 hap; have HAP := Lib.hid hap; have hb12 := below_of_only (Below.refl wr.heap.size wr) hap.only (Nat.le_refl _) (fun x hx => by cases hx); have hP3 := (hP.under hb12).under (below_alloc (Below.refl _ _) (.cells #[.int .u32 id, .int .i64 k, .int .i64 m, .slice A2 ((k + 1) * 448 - k * 448) c2] 34)); have hb3 := below_alloc (hbel.trans (hb12.mono hbel.size)) (.cells #[.int .u32 id, .int .i64 k, .int .i64 m, .slice A2 ((k + 1) * 448 - k * 448) c2] 34); clear hap)
            | (refine wpList_append_row _ rfl (.tmp 21) (.tmp 37) 26 34 4 48 rfl Try.underlying26 (by kernel_rfl) (by omega) (by omega) wc.heap.size (.slice A1 L.length c1) L.length (L.flatMap cells) rfl hP3.row w2.heap.size (cells (⟨id, k, m, Frag.chunk b k⟩, .slice A2 ((k + 1) * 448 - k * 448) c2)) rfl (Blk.new _ _ _) rfl (by intro u hu; simp [cells] at hu; rcases hu with rfl | rfl | rfl | rfl <;> rfl) (by have := HLK.out; omega) hb3.size ?_; intro g cap w3 p1 p2 p3 p4))
          have hq := (HAP.out.own).alloc (.cells #[.int .u32 id, .int .i64 k, .int .i64 m, .slice A2 ((k + 1) * 448 - k * 448) c2] 34)
          have hap : Apart (.slice A1 L.length c1) (.slice A2 ((k + 1) * 448 - k * 448) c2) := fun x hx hx2 => by
            have h1 := (hP.row.blocks x hx).2
            rcases HAP.out.where_ with e | e
            · rw [hx2] at e; cases e
            · rw [hx2] at e; injection e with e; omega
          have hP4 := Parts.more hP3 (⟨id, k, m, Frag.chunk b k⟩, .slice A2 ((k + 1) * 448 - k * 448) c2) hq hap g cap p1 p2 p3
          have hmap : (L ++ [((⟨id, k, m, Frag.chunk b k⟩ : PV), Value.slice A2 ((k + 1) * 448 - k * 448) c2)]).map (·.1) = Frag.parts id b m (k + 1) := by
            rw [List.map_append, HMAP.out]
            unfold Frag.parts
            rw [List.range_succ, List.map_append]
            rfl
          have hb5 := below_of_only hb3 p2 hb3.size (fun x hx => (hP.row.blocks x hx).1)
          have hlen2 : (L ++ [((⟨id, k, m, Frag.chunk b k⟩ : PV), Value.slice A2 ((k + 1) * 448 - k * 448) c2)]).length = L.length + 1 := by simp
          refine ⟨⟨k + 1, some ⟨g, 0, none⟩, cap, _, by omega, by go_num, by rw [hlen2], by rw [hlen2, HLK.out], hmap, by rw [hlen2]; exact hP4, hb5⟩, ?_⟩
          simp [intOf]
          omega
        · go_wp2_with (at_builtin; first
            | (refine wpList_append_to _ rfl (.const (.slice none 0 0)) (.tmp 34) 23 5 .u8 1 rfl Try.underlying23 (by kernel_rfl) (by omega) wc.heap.size (.slice none 0 0) [] rfl (OwnI.nil _ _ _ _) (some ⟨b0, o0 + k * 448, none⟩) _ (b.length - k * 448) (Frag.chunk b k) rfl hr (by rw [hlen]; omega) (b.length - k * 448) (Frag.chunk b k) rfl (by rw [hlen]; simp; omega) (by omega) hbel.size ?_; intro A2 c2 w2 hap; have HAP := Lib.hid hap; have hb12 := below_of_only (Below.refl wr.heap.size wr) hap.only (Nat.le_refl _) (fun x hx => by cases hx); have hP3 := (hP.under hb12).under (below_alloc (Below.refl _ _) (.cells #[.int .u32 id, .int .i64 k, .int .i64 m, .slice A2 (b.length - k * 448) c2] 34)); have hb3 := below_alloc (hbel.trans (hb12.mono hbel.size)) (.cells #[.int .u32 id, .int .i64 k, .int .i64 m, .slice A2 (b.length - k * 448) c2] 34); clear hap)
            | (refine wpList_append_row _ rfl (.tmp 21) (.tmp 37) 26 34 4 48 rfl Try.underlying26 (by kernel_rfl) (by omega) (by omega) wc.heap.size (.slice A1 L.length c1) L.length (L.flatMap cells) rfl hP3.row w2.heap.size (cells (⟨id, k, m, Frag.chunk b k⟩, .slice A2 (b.length - k * 448) c2)) rfl (Blk.new _ _ _) rfl (by intro u hu; simp [cells] at hu; rcases hu with rfl | rfl | rfl | rfl <;> rfl) (by have := HLK.out; omega) hb3.size ?_; intro g cap w3 p1 p2 p3 p4))
          have hq := (HAP.out.own).alloc (.cells #[.int .u32 id, .int .i64 k, .int .i64 m, .slice A2 (b.length - k * 448) c2] 34)
          have hap : Apart (.slice A1 L.length c1) (.slice A2 (b.length - k * 448) c2) := fun x hx hx2 => by
            have h1 := (hP.row.blocks x hx).2
            rcases HAP.out.where_ with e | e
            · rw [hx2] at e; cases e
            · rw [hx2] at e; injection e with e; omega
          have hP4 := Parts.more hP3 (⟨id, k, m, Frag.chunk b k⟩, .slice A2 (b.length - k * 448) c2) hq hap g cap p1 p2 p3
          have hmap : (L ++ [((⟨id, k, m, Frag.chunk b k⟩ : PV), Value.slice A2 (b.length - k * 448) c2)]).map (·.1) = Frag.parts id b m (k + 1) := by
            rw [List.map_append, HMAP.out]
            unfold Frag.parts
            rw [List.range_succ, List.map_append]
            rfl
          have hb5 := below_of_only hb3 p2 hb3.size (fun x hx => (hP.row.blocks x hx).1)
          have hlen2 : (L ++ [((⟨id, k, m, Frag.chunk b k⟩ : PV), Value.slice A2 (b.length - k * 448) c2)]).length = L.length + 1 := by simp
          refine ⟨⟨k + 1, some ⟨g, 0, none⟩, cap, _, by omega, by go_num, by rw [hlen2], by rw [hlen2, HLK.out], hmap, by rw [hlen2]; exact hP4, hb5⟩, ?_⟩
          simp [intOf]
          omega
      · obtain rfl : k = m := by omega
        go_wp2_with fail
        go_ret2
        exact ⟨A1, c1, L, rfl, HMAP.out, hP, hbel⟩
end Go.Proofs.Ytpoobdccmaiaiaa
