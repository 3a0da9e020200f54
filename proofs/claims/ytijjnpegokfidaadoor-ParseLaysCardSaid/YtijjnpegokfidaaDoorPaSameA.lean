/- The document's Same of acts walked, where they are alike. -/
import Derived.Test.YtijjnpegokfidaaDoorPaSame
namespace Go.Proofs.YtijjnpegokfidaaDoor
open Go.RowKit
open Pa
set_option linter.unusedVariables false
set_option linter.unusedSimpArgs false

def SameMid (w wr : World) (q r : AE) (u v : Value) (wx : World) : Prop :=
  ∃ bx b2, u = .pointer (some ⟨bx, 0, none⟩) ∧ v = .pointer (some ⟨b2, 0, none⟩) ∧ Blk wx bx 25 (acell q).toArray ∧ Blk wx b2 25 (acell r).toArray ∧ Below wr.heap.size wr wx

theorem SameMid.a {w wr : World} (q r : AE) : SameMid w wr q r (.pointer (some ⟨wr.heap.size, 0, none⟩)) (.pointer (some ⟨wr.heap.size + 1, 0, none⟩)) ((wr.alloc (.cells (acell q).toArray 25)).alloc (.cells (acell r).toArray 25)).drew := by
  refine ⟨_, _, rfl, rfl, (Blk.new _ _ _).alloc _, ?_, below_drew (below_alloc (below_alloc (Below.refl _ _) _) _)⟩
  have h1 := Blk.new (wr.alloc (.cells (acell q).toArray 25)) 25 (acell r).toArray
  rw [show (wr.alloc (.cells (acell q).toArray 25)).heap.size = wr.heap.size + 1 by simp] at h1
  exact h1
theorem SameMid.b {w wr : World} (q r : AE) : SameMid w wr q r (.pointer (some ⟨wr.heap.size + 1, 0, none⟩)) (.pointer (some ⟨wr.heap.size, 0, none⟩)) ((wr.alloc (.cells (acell r).toArray 25)).alloc (.cells (acell q).toArray 25)).drew := by
  refine ⟨_, _, rfl, rfl, ?_, (Blk.new _ _ _).alloc _, below_drew (below_alloc (below_alloc (Below.refl _ _) _) _)⟩
  have h1 := Blk.new (wr.alloc (.cells (acell r).toArray 25)) 25 (acell q).toArray
  rw [show (wr.alloc (.cells (acell r).toArray 25)).heap.size = wr.heap.size + 1 by simp] at h1
  exact h1

set_option maxRecDepth 100000 in
set_option maxHeartbeats 1000000 in
theorem sameA_true (A B : Option Addr) (n m c d : Nat) (L M : List AE) (w : World) (hn : n = L.length) (hm : m = L.length) (hx : RdA w A L) (hy : RdA w B M) (he : L.map (·.1) = M.map (·.1)) (hok : ∀ q ∈ L, q.1.params.length ≤ 1000000 ∧ q.1.text.length ≤ 1000000) (hl : L.length ≤ 1000000) :
    Calls Tryd.prog 10 #[.slice A n c, .slice B m d] w fun e w' => e = .returned (.bool true) ∧ Below w.heap.size w w' := by
  subst hn hm
  have HX := Lib.hid hx
  have HY := Lib.hid hy
  have HE := Lib.hid he
  have HOK := Lib.hid hok
  clear hx hy he hok
  go_enter Tryd.func10, Tryd.ntmps10
  go_wp2_with fail
  go_loopw [16] (fun i wr => ∃ k : Nat, k ≤ L.length ∧ i = .int .i64 k ∧ Below w.heap.size w wr) (fun i _ => L.length - (intOf i).toNat)
  case atStart => exact ⟨0, Nat.zero_le _, rfl, Below.refl _ _⟩
  case round =>
    obtain ⟨k, hk, rfl, hbel⟩ := hrel
    have HBEL := Lib.hid hbel
    clear hbel
    by_cases hlt : k < L.length
    · have hml : M.length = L.length := by have := congrArg List.length HE.out; simpa using this.symm
      obtain ⟨⟨t, p1, x1⟩, hq⟩ : ∃ q, L[k]? = some q := ⟨_, List.getElem?_eq_getElem hlt⟩
      obtain ⟨⟨t2, p2, x2⟩, hr⟩ : ∃ r, M[k]? = some r := ⟨_, List.getElem?_eq_getElem (by omega)⟩
      have ht : t = t2 := by
        have := congrArg (fun l => l[k]?) HE.out
        simp only [List.getElem?_map, hq, hr, Option.map_some] at this
        injection this
      subst ht
      have hqm := List.mem_of_getElem? hq
      have hrm := List.mem_of_getElem? hr
      obtain ⟨P1, pc1, e1, rp1⟩ := (HX.out.under HBEL.out).par _ hqm
      obtain ⟨P2, pc2, e2, rp2⟩ := (HY.out.under HBEL.out).par _ hrm
      obtain ⟨X1, xc1, e3, rx1⟩ := (HX.out.under HBEL.out).txt _ hqm
      obtain ⟨X2, xc2, e4, rx2⟩ := (HY.out.under HBEL.out).txt _ hrm
      simp only [] at e1 e2 e3 e4 rp1 rp2 rx1 rx2
      subst e1 e2 e3 e4
      obtain ⟨b1, o1, rfl, hc1⟩ := (HX.out.under HBEL.out).cells k _ hq
      obtain ⟨b2, o2, rfl, hc2⟩ := (HY.out.under HBEL.out).cells k _ hr
      have hlen := HOK.out _ hqm
      simp only [] at hlen
      have u0 : wr.cell? ⟨b1, o1 + k * 6, none⟩ = some (.int .i64 t.kind) := hc1 0 (by omega) _ rfl
      have u1 : wr.cell? ⟨b1, o1 + k * 6 + 1, none⟩ = some (.int .i32 t.rune) := hc1 1 (by omega) _ rfl
      have u2 : wr.cell? ⟨b1, o1 + k * 6 + 2, none⟩ = some (.int .u8 t.mark) := hc1 2 (by omega) _ rfl
      have u3 : wr.cell? ⟨b1, o1 + k * 6 + 3, none⟩ = some (.int .u8 t.final) := hc1 3 (by omega) _ rfl
      have u4 : wr.cell? ⟨b1, o1 + k * 6 + 4, none⟩ = some (.slice P1 t.params.length pc1) := hc1 4 (by omega) _ rfl
      have u5 : wr.cell? ⟨b1, o1 + k * 6 + 5, none⟩ = some (.slice X1 t.text.length xc1) := hc1 5 (by omega) _ rfl
      have v0 : wr.cell? ⟨b2, o2 + k * 6, none⟩ = some (.int .i64 t.kind) := hc2 0 (by omega) _ rfl
      have v1 : wr.cell? ⟨b2, o2 + k * 6 + 1, none⟩ = some (.int .i32 t.rune) := hc2 1 (by omega) _ rfl
      have v2 : wr.cell? ⟨b2, o2 + k * 6 + 2, none⟩ = some (.int .u8 t.mark) := hc2 2 (by omega) _ rfl
      have v3 : wr.cell? ⟨b2, o2 + k * 6 + 3, none⟩ = some (.int .u8 t.final) := hc2 3 (by omega) _ rfl
      have v4 : wr.cell? ⟨b2, o2 + k * 6 + 4, none⟩ = some (.slice P2 t.params.length pc2) := hc2 4 (by omega) _ rfl
      have v5 : wr.cell? ⟨b2, o2 + k * 6 + 5, none⟩ = some (.slice X2 t.text.length xc2) := hc2 5 (by omega) _ rfl
      have lb1 : b1 < wr.heap.size := World.block_lt_of_cell? wr _ u0
      have lb2 : b2 < wr.heap.size := World.block_lt_of_cell? wr _ v0
      have i1 : (k : Int) < (L.length : Int) := by omega
      clear hc1 hc2 hq hr hqm hrm
      go_wp2_with fail
      go_cut [6, 7] from 19 to 26 (fun u v wx => SameMid w wr (t, .slice P1 t.params.length pc1, .slice X1 t.text.length xc1) (t, .slice P2 t.params.length pc2, .slice X2 t.text.length xc2) u v wx)
      case first =>
        go_region
        all_goals (try go_wp2_with fail)
        all_goals
          go_meet
          case rel =>
            first
              | exact SameMid.a (t, .slice P1 t.params.length pc1, .slice X1 t.text.length xc1) (t, .slice P2 t.params.length pc2, .slice X2 t.text.length xc2)
              | exact SameMid.b (t, .slice P1 t.params.length pc1, .slice X1 t.text.length xc1) (t, .slice P2 t.params.length pc2, .slice X2 t.text.length xc2)
      case rest =>
        obtain ⟨bx, b3, rfl, rfl, hbx, hby, hbw⟩ := hcut
        have x0 : wc.cell? ⟨bx, 0, none⟩ = some (.int .i64 t.kind) := hbx.cell 0
        have x1 : wc.cell? ⟨bx, 1, none⟩ = some (.int .i32 t.rune) := hbx.cell 1
        have x2 : wc.cell? ⟨bx, 2, none⟩ = some (.int .u8 t.mark) := hbx.cell 2
        have x3 : wc.cell? ⟨bx, 3, none⟩ = some (.int .u8 t.final) := hbx.cell 3
        have x4 : wc.cell? ⟨bx, 4, none⟩ = some (.slice P1 t.params.length pc1) := hbx.cell 4
        have x5 : wc.cell? ⟨bx, 5, none⟩ = some (.slice X1 t.text.length xc1) := hbx.cell 5
        have z0 : wc.cell? ⟨b3, 0, none⟩ = some (.int .i64 t.kind) := hby.cell 0
        have z1 : wc.cell? ⟨b3, 1, none⟩ = some (.int .i32 t.rune) := hby.cell 1
        have z2 : wc.cell? ⟨b3, 2, none⟩ = some (.int .u8 t.mark) := hby.cell 2
        have z3 : wc.cell? ⟨b3, 3, none⟩ = some (.int .u8 t.final) := hby.cell 3
        have z4 : wc.cell? ⟨b3, 4, none⟩ = some (.slice P2 t.params.length pc2) := hby.cell 4
        have z5 : wc.cell? ⟨b3, 5, none⟩ = some (.slice X2 t.text.length xc2) := hby.cell 5
        have HBX := Lib.hid hbx
        have HBY := Lib.hid hby
        have HBW := Lib.hid hbw
        have RP1 := Lib.hid (rp1.under hbw)
        have RP2 := Lib.hid (rp2.under hbw)
        have RX1 := Lib.hid (rx1.under hbw)
        have RX2 := Lib.hid (rx2.under hbw)
        clear hbx hby hbw rp1 rp2 rx1 rx2 u0 u1 u2 u3 u4 u5 v0 v1 v2 v3 v4 v5
        go_wp2_with fail
        refine (sameB_dec X1 X2 xc1 xc2 _ _ t.text t.text wc true rfl rfl RX1.out RX2.out (by omega) (by omega) (by simp)).mono ?_
        rintro e w3 ⟨rfl, hb3⟩
        have y4 : w3.cell? ⟨bx, 4, none⟩ = some (.slice P1 t.params.length pc1) := (HBX.out.under hb3).cell 4
        have q4 : w3.cell? ⟨b3, 4, none⟩ = some (.slice P2 t.params.length pc2) := (HBY.out.under hb3).cell 4
        have rp1 := RP1.out.under hb3
        have rp2 := RP2.out.under hb3
        have HB3 := Lib.hid hb3
        clear hb3
        go_wp2_with fail
        go_loopw [73] (fun i wz => ∃ j m : Nat, j ≤ t.params.length ∧ i = .int .i64 j ∧ wz = w3.drewN m) (fun i _ => t.params.length - (intOf i).toNat)
        case atStart => exact ⟨0, 0, Nat.zero_le _, rfl, rfl⟩
        case round =>
          obtain ⟨j, m, hj, rfl, rfl⟩ := hrel
          by_cases hjt : j < t.params.length
          · obtain ⟨g1, a1, rfl, hg1⟩ := rp1 (by intro e; rw [e] at hjt; simp at hjt)
            obtain ⟨g2, a2, rfl, hg2⟩ := rp2 (by intro e; rw [e] at hjt; simp at hjt)
            have s1 := hg1 j hjt
            have s2 := hg2 j hjt
            obtain ⟨x, hx⟩ : ∃ x, x = t.params.getD j 0 := ⟨_, rfl⟩
            rw [← hx] at s1 s2
            have j1 : (j : Int) < (t.params.length : Int) := by omega
            clear hg1 hg2 hx
            go_wp2_with fail
            go_quiet (fail)
            go_wp2_with fail
            go_roundw
            case rel => exact ⟨j + 1, _, by omega, by go_num, rfl⟩
            case measure => simp [intOf]; omega
          · obtain rfl : j = t.params.length := by omega
            go_wp2_with fail
            go_roundw
            case rel => exact ⟨k + 1, by omega, by go_num, below_drewN ((HBEL.out.trans (HBW.out.mono HBEL.out.size)).trans (HB3.out.mono (Nat.le_trans HBEL.out.size HBW.out.size))) m⟩
            case measure => simp [intOf]; omega
    · obtain rfl : k = L.length := by omega
      go_wp2_with fail
      go_ret
      exact ⟨rfl, HBEL.out⟩
end Go.Proofs.YtijjnpegokfidaaDoor
