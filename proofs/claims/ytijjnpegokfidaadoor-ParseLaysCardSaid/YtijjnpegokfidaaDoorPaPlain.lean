/- plain walked. -/
import Derived.Test.YtijjnpegokfidaaDoorPaPv
namespace Go.Proofs.YtijjnpegokfidaaDoor
open Go.RowKit
open Pa
open Utf (DS feed endT endS)
set_option linter.unusedVariables false
set_option linter.unusedSimpArgs false

/-- The decoder has told runes, and they are acts now: the parser behind it. -/
theorem Pv.told {w w1 w2 : World} {B gp gd : Nat} {s : PS} {vp vt : Value} (hP : Pv w B gp gd s vp vt) {r : List Int × DS} (hd : Dec w1 gd r.2) (hg : w.grownBy w1 (some gd)) (hb : Below w1.heap.size w1 w2) :
    Pv w2 B gp gd { s with d := r.2 } vp vt ∧ Keeps (Its gp gd vp vt) w w2 :=
  ⟨(hP.fed hd hg).under hb, (Keeps.grown hg (S := Its gp gd vp vt) (fun g h => by injection h with h; exact .inr (.inl h.symm))).trans (Keeps.under hb (fun _ => False)) (fun _ h => h.elim)⟩

set_option maxRecDepth 100000 in
set_option maxHeartbeats 1000000 in
theorem plain_any (b : Int) (hb : 0 ≤ b ∧ b < 256) (w : World) (B gp gd : Nat) (s : PS) (vp vt : Value) (hP : Pv w B gp gd s vp vt) (hw : WF s) :
    Calls Tryd.prog 27 #[.pointer (some ⟨gp, 0, none⟩), .int .u8 b] w (FeedEnd w B gp gd vp vt (plain s b)) := by
  have HP := Lib.hid hP
  have HW := Lib.hid hw
  have c0 : w.cell? ⟨gp, 0, none⟩ = some (.pointer (some ⟨gd, 0, none⟩)) := hP.blk.cell 0
  clear hP hw
  by_cases h32 : b < 32
  · have hr : plain s b = (prints (endT s.d) ++ [Pa.c0 b], { s with d := endS s.d }) := by unfold plain; rw [if_pos h32]
    rw [hr]
    have d1 : decide (b < 32) = true := decide_eq_true h32
    clear hr h32
    go_enter Tryd.func27, Tryd.ntmps27
    go_wp2_with fail
    refine (end_any w gd s.d HP.out.dec).mono ?_
    rintro e w1 ⟨A1, c1, rfl, o1, hd1, hg1⟩
    have O1 := Lib.hid o1
    have D1 := Lib.hid hd1
    have G1 := Lib.hid hg1
    have hel := Utf.end_len s.d
    clear o1 hd1 hg1
    go_wp2_with fail
    refine (prints_any A1 _ c1 (endT s.d) w1 rfl O1.out.read (by omega)).mono ?_
    rintro e w2 ⟨A2, c2, L, rfl, hL, hA, hb2⟩
    have hll : L.length = (endT s.d).length := by have := congrArg List.length hL; simpa [prints] using this
    obtain ⟨hP2, k2⟩ := HP.out.told (r := (endT s.d, endS s.d)) D1.out G1.out hb2
    have hz2 : w.heap.size ≤ w2.heap.size := k2.size
    have hA3 := (hA.mono G1.out.size).under (below_alloc (Below.refl _ _) (.cells (acell (Pa.c0 b, nilV, nilV)).toArray 25))
    have HA3 := Lib.hid hA3
    have HP2 := Lib.hid hP2
    have K2 := Lib.hid k2
    have HL := Lib.hid hL
    have HLL := Lib.hid hll
    have hl1 : L.length ≤ 1 := by omega
    clear hL hA hb2 hP2 k2 hA3 hll
    go_wp2_with (at_builtin; first
      | (refine wpList_append_cells _ rfl (.tmp 13) (.tmp 16) 35 25 6 64 rfl Tryd.underlying35 (by kernel_rfl) (by omega) (by omega) w.heap.size (.slice A2 L.length c2) L.length (L.flatMap acell) rfl HA3.out.row (some ⟨w2.heap.size, 0, none⟩) 1 1 (acell (Pa.c0 b, nilV, nilV)) rfl (Blk.read (Blk.new _ _ _)) rfl (oneCell_act (Pa.c0 b, nilV, nilV) ⟨_, _, _, rfl⟩ ⟨_, _, _, rfl⟩) (L.length + 1) rfl _ rfl (by omega) (by simp; omega) ?_; intro A3 c3 w3 hap; have HAP := Lib.hid hap; clear hap))
    go_ret
    have hlen2 : (L ++ [(Pa.c0 b, nilV, nilV)]).length = L.length + 1 := by simp
    have hac : Acs w3 w.heap.size (.slice A3 (L.length + 1) c3) (L ++ [(Pa.c0 b, nilV, nilV)]) :=
      HA3.out.app (M := [(Pa.c0 b, nilV, nilV)]) (fun q hq => by rw [List.mem_singleton.1 hq]; exact OwnI.nil _ _ _ _) (fun q hq => by rw [List.mem_singleton.1 hq]; exact OwnI.nil _ _ _ _) (fun q hq => by rw [List.mem_singleton.1 hq]; exact ⟨Apart.none _, Apart.none _⟩) (by
        have h := HAP.out
        rw [hlen2, List.flatMap_append]
        simp only [List.flatMap_cons, List.flatMap_nil, List.append_nil]
        exact h)
    have hrl : (prints (endT s.d) ++ [Pa.c0 b]).length = L.length + 1 := by rw [List.length_append, HLL.out]; simp [prints]
    have hk3 : Keeps (fun g => (Value.slice A2 L.length c2).ownBlock = some g) w2 w3 := Keeps.trans (Keeps.under (below_alloc (Below.refl w2.heap.size w2) _) _) (Keeps.grown HAP.out.only (S := fun g => (Value.slice A2 L.length c2).ownBlock = some g) (fun g h => h)) (fun g h _ => h)
    have hnot : ∀ g, (Value.slice A2 L.length c2).ownBlock = some g → w.heap.size ≤ g := fun g hg => (OwnR.blocks HA3.out.row g hg).1
    have hP3 : Pv w3 B gp gd { s with d := endS s.d } vp vt := HP2.out.far hk3 (fun g hg hi => by have := HP.out.its_lt hi; have := hnot g hg; omega)
    have hK3 : Keeps (Its gp gd vp vt) w w3 := K2.out.trans hk3 (fun g hg hlt => by have := hnot g hg; omega)
    have hfin := FeedEnd.same (r := (prints (endT s.d) ++ [Pa.c0 b], { s with d := endS s.d })) (A := A3) (c := c3) (L := L ++ [(Pa.c0 b, nilV, nilV)]) HP.out (by simp only []; rw [hrl]; exact hac) (by rw [List.map_append, HL.out]; rfl) hP3 hK3
    simp only [] at hfin
    rw [hrl] at hfin
    exact hfin
  · by_cases h127 : b = 127
    · have hr : plain s b = (prints (endT s.d), { s with d := endS s.d }) := by unfold plain; rw [if_neg h32, if_pos h127]
      rw [hr]
      subst h127
      clear hr h32
      go_enter Tryd.func27, Tryd.ntmps27
      go_wp2_with fail
      refine (end_any w gd s.d HP.out.dec).mono ?_
      rintro e w1 ⟨A1, c1, rfl, o1, hd1, hg1⟩
      have O1 := Lib.hid o1
      have D1 := Lib.hid hd1
      have G1 := Lib.hid hg1
      have hel := Utf.end_len s.d
      clear o1 hd1 hg1
      go_wp2_with fail
      refine (prints_any A1 _ c1 (endT s.d) w1 rfl O1.out.read (by omega)).mono ?_
      rintro e w2 ⟨A2, c2, L, rfl, hL, hA, hb2⟩
      have hll : L.length = (prints (endT s.d)).length := by have := congrArg List.length hL; simpa using this
      obtain ⟨hP2, k2⟩ := HP.out.told (r := (endT s.d, endS s.d)) D1.out G1.out hb2
      have hA2 := hA.mono G1.out.size
      rw [hll] at hA2
      have hfin := FeedEnd.same (r := (prints (endT s.d), { s with d := endS s.d })) (A := A2) (c := c2) (L := L) HP.out hA2 hL hP2 k2
      have HFIN := Lib.hid hfin
      have HLL := Lib.hid hll
      clear hL hA hb2 hP2 k2 hA2 hll hfin
      go_wp2_with fail
      go_ret
      rw [HLL.out]
      exact HFIN.out
    · have hr : plain s b = (prints (feed s.d b).1, { s with d := (feed s.d b).2 }) := by unfold plain; rw [if_neg h32, if_neg h127]
      rw [hr]
      have d1 : decide (b < 32) = false := decide_eq_false h32
      have d2 : (b == 127) = false := beq_eq_false_iff_ne.2 h127
      clear hr h32 h127
      go_enter Tryd.func27, Tryd.ntmps27
      go_wp2_with fail
      refine (feed_any b hb w gd s.d HP.out.dec HW.out.d).mono ?_
      rintro e w1 ⟨A1, c1, rfl, o1, hd1, hg1⟩
      have O1 := Lib.hid o1
      have D1 := Lib.hid hd1
      have G1 := Lib.hid hg1
      have hel := Utf.feed_len s.d b
      clear o1 hd1 hg1
      go_wp2_with fail
      refine (prints_any A1 _ c1 (feed s.d b).1 w1 rfl O1.out.read (by omega)).mono ?_
      rintro e w2 ⟨A2, c2, L, rfl, hL, hA, hb2⟩
      have hll : L.length = (prints (feed s.d b).1).length := by have := congrArg List.length hL; simpa using this
      obtain ⟨hP2, k2⟩ := HP.out.told (r := feed s.d b) D1.out G1.out hb2
      have hA2 := hA.mono G1.out.size
      rw [hll] at hA2
      have hfin := FeedEnd.same (r := (prints (feed s.d b).1, { s with d := (feed s.d b).2 })) (A := A2) (c := c2) (L := L) HP.out hA2 hL hP2 k2
      have HFIN := Lib.hid hfin
      have HLL := Lib.hid hll
      clear hL hA hb2 hP2 k2 hA2 hll hfin
      go_wp2_with fail
      go_ret
      rw [HLL.out]
      exact HFIN.out
end Go.Proofs.YtijjnpegokfidaaDoor
