/- The walk of the document's joiner's Take. -/
import Derived.Test.YtpoobdccmaiaiaaFrR
import Derived.BigQuiet
import Derived.BigRegion
import Derived.Deep.QuietTactic
import Derived.Deep.RegionHeld3
namespace Go.Proofs.Ytpoobdccmaiaiaa
open Go.RowKit
open Frag
set_option linter.unusedVariables false
set_option linter.unusedSimpArgs false

theorem rmay_dec (p : PV) (A : Option Addr) (n c : Nat) (w : World) (hn : n = p.bs.length) (hl : n ≤ 9223372036854775807) (r : Bool) (hr : mayP p = r) :
    Calls Try.prog 17 #[partV p A n c] w fun e w' => e = .returned (.bool r) ∧ Below w.heap.size w w' := by
  subst hn hr
  exact rmay_any p.id p.ix p.ct A _ c w hl
/-- What a call of the document's Take answers and leaves: the list as it was, or with the part behind it, in new memory. -/
def RTakeAll (w : World) (p : PV) (A2 : Option Addr) (n2 c2 : Nat) (A : Option Addr) (c : Nat) (L : List (PV × Value)) (e : Ending) (w' : World) : Prop :=
  ∃ A' c' AT n cT, e = .returned (.tuple #[.slice A' (rtake (L.map (·.1)) p).1.out.length c', .bool (rtake (L.map (·.1)) p).1.ok, .int .i64 (rtake (L.map (·.1)) p).1.er, .agg #[.slice AT n cT]]) ∧
    OwnI w' w.heap.size 5 .u8 (.slice A' (rtake (L.map (·.1)) p).1.out.length c') (rtake (L.map (·.1)) p).1.out ∧ Below w.heap.size w w' ∧
    (((rtake (L.map (·.1)) p).2 = false ∧ AT = A ∧ n = L.length ∧ cT = c) ∨ ((rtake (L.map (·.1)) p).2 = true ∧ n = L.length + 1 ∧ OwnR w' w.heap.size 34 4 (.slice AT (L.length + 1) cT) (L.length + 1) (L.flatMap cells ++ cells (p, .slice A2 n2 c2))))
theorem RTakeAll.of {w : World} {p : PV} {A2 : Option Addr} {n2 c2 : Nat} {L : List (PV × Value)} {e : Ending} {w' : World} {A : Option Addr} {c : Nat} (er : Int) (ht : rtake (L.map (·.1)) p = (⟨[], false, er⟩, false)) (hb : Below w.heap.size w w')
    (he : e = .returned (.tuple #[.slice none 0 0, .bool false, .int .i64 er, .agg #[.slice A L.length c]])) : RTakeAll w p A2 n2 c2 A c L e w' := by
  unfold RTakeAll
  rw [ht]
  exact ⟨none, 0, A, L.length, c, he, OwnI.nil _ _ _ _, hb, .inl ⟨rfl, rfl, rfl, rfl⟩⟩
theorem RTakeAll.put {w : World} {p : PV} {A2 : Option Addr} {n2 c2 : Nat} {L : List (PV × Value)} {e : Ending} {w' : World} {A : Option Addr} {c : Nat} {a : Ans} (ht : rtake (L.map (·.1)) p = (a, true)) (AT : Option Addr) (cT : Nat) (hL : OwnR w' (w.heap.size + 3) 34 4 (.slice AT (L.length + 1) cT) (L.length + 1) (L.flatMap cells ++ cells (p, .slice A2 n2 c2))) (hb : Below w.heap.size w w')
    {A' : Option Addr} {c' : Nat} (ho : OwnI w' w.heap.size 5 .u8 (.slice A' a.out.length c') a.out)
    (he : e = .returned (.tuple #[.slice A' a.out.length c', .bool a.ok, .int .i64 a.er, .agg #[.slice AT (L.length + 1) cT]])) : RTakeAll w p A2 n2 c2 A c L e w' := by
  unfold RTakeAll
  rw [ht]
  exact ⟨A', c', AT, _, cT, he, ho, hb, .inr ⟨rfl, rfl, OwnR.mono hL (by omega)⟩⟩
/-- The three cells that the call keeps: its joiner, its part, its last result. -/
structure RT (w : World) (A : Option Addr) (n c : Nat) (p : PV) (A2 : Option Addr) (n2 c2 : Nat) (wx : World) : Prop where
  j : Blk wx w.heap.size 40 #[.slice A n c]
  p : Blk wx (w.heap.size + 1) 34 (partC p A2 n2 c2)
  r : Blk wx (w.heap.size + 2) 40 #[.slice none 0 0]
  below : Below w.heap.size w wx
theorem RT.drewN {w wx : World} {A : Option Addr} {n c : Nat} {p : PV} {A2 : Option Addr} {n2 c2 : Nat} (h : RT w A n c p A2 n2 c2 wx) (m : Nat) : RT w A n c p A2 n2 c2 (wx.drewN m) := ⟨h.j, h.p, h.r, below_drewN h.below m⟩
theorem RT.start {w w2 : World} {A : Option Addr} {n c : Nat} {p : PV} {A2 : Option Addr} {n2 c2 : Nat} (h : Below (((w.alloc (.cells #[.slice A n c] 40)).alloc (.cells (partC p A2 n2 c2) 34)).alloc (.cells #[.slice none 0 0] 40)).heap.size
      (((w.alloc (.cells #[.slice A n c] 40)).alloc (.cells (partC p A2 n2 c2) 34)).alloc (.cells #[.slice none 0 0] 40)) w2) : RT w A n c p A2 n2 c2 w2 := by
  refine ⟨(((Blk.new w _ _).alloc _).alloc _).under h, ?_, ?_, ?_⟩
  · have := ((Blk.new (w.alloc (.cells #[.slice A n c] 40)) 34 (partC p A2 n2 c2)).alloc (.cells #[.slice none 0 0] 40)).under h
    simpa using this
  · have := (Blk.new ((w.alloc (.cells #[.slice A n c] 40)).alloc (.cells (partC p A2 n2 c2) 34)) 40 #[.slice none 0 0]).under h
    simpa using this
  · exact (below_alloc (below_alloc (below_alloc (Below.refl _ _) _) _) _).trans (h.mono (by simp; omega))
/-- The last result is laid. -/
theorem RT.gone {w wx : World} {A : Option Addr} {n c : Nat} {p : PV} {A2 : Option Addr} {n2 c2 : Nat} (h : RT w A n c p A2 n2 c2 wx) (u : Value) : Below w.heap.size w (wx.setCell ⟨w.heap.size + 2, 0, none⟩ u) := h.below.setCell (by simp) u

set_option maxRecDepth 100000 in
set_option maxHeartbeats 2000000 in
theorem rtake_not (p : PV) (A2 : Option Addr) (n2 c2 : Nat) (w : World) (A : Option Addr) (c : Nat) (L : List (PV × Value)) (hL : PartsR w A L) (hn : n2 = p.bs.length) (hl : n2 ≤ 9223372036854775807) (hm : mayP p = false) :
    Calls Try.prog 15 #[.agg #[.slice A L.length c], partV p A2 n2 c2] w (RTakeAll w p A2 n2 c2 A c L) := by
  have hrt : rtake (L.map (·.1)) p = (⟨[], false, 1⟩, false) := by unfold rtake; rw [if_pos hm]
  have HRT := Lib.hid hrt
  clear hrt
  have HL := Lib.hid hL
  have HN := Lib.hid hn
  have HM := Lib.hid hm
  clear hL hn hm
  go_enter Try.func15, Try.ntmps15
  go_wp2_with fail
  refine (rmay_dec p A2 n2 c2 _ HN.out hl false HM.out).mono ?_
  rintro e w2 ⟨rfl, hb2⟩
  have hT := RT.start hb2
  have HT := Lib.hid hT
  have c0 : w2.cell? ⟨w.heap.size, 0, none⟩ = some (.slice A L.length c) := hT.j.cell 0
  have r0 : w2.cell? ⟨w.heap.size + 2, 0, none⟩ = some (.slice none 0 0) := hT.r.cell 0
  have f0 : w2.frozen? ⟨w.heap.size + 2, 0, none⟩ = false := hT.r.frozen 0
  clear hb2 hT
  go_wp2_with fail
  go_region
  all_goals
    go_wp2_with fail
    refine bodyPost_ret (v := .tuple #[.slice none 0 0, .bool false, .int .i64 1, .agg #[.slice A L.length c]]) (by simp [results, Try.results15, go_sem, r0]) rfl ?_
    exact RTakeAll.of 1 HRT.out (below_drew (HT.out.gone _)) rfl
end Go.Proofs.Ytpoobdccmaiaiaa
