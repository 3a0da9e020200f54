/- road.clone and Road.add walked. -/
import Derived.Test.YtkodmoeohffjhaaRoHrem
import Derived.Test.YtkodmoeohffjhaaU8s
import Derived.Deep.RegionHeld3
namespace Go.Proofs.Ytkodmoeohffjhaa
open Go.RowKit Go.Proofs.Ytkodmoeohffjhaa.Hp
set_option linter.unusedVariables false
set_option linter.unusedSimpArgs false

abbrev gramV (addr : Int) (down : Bool) (A : Option Addr) (n c : Nat) : Value := .agg #[.int .i64 addr, .bool down, .slice A n c]
/-- A slice of bytes made new. -/
abbrev OwnB (w : World) (base : Nat) (A : Option Addr) (c : Nat) (bs : List Int) : Prop := OwnI w base 5 .u8 (.slice A bs.length c) bs
theorem two_blk {w w6 : World} {t1 t2 : TypeId} {X Y : Array Value} (h : ((w.alloc (.cells X t1)).alloc (.cells Y t2)).grownBy w6 none) : Blk w6 w.heap.size t1 X ∧ Blk w6 (w.heap.size + 1) t2 Y :=
  ⟨((Blk.new w t1 X).alloc _).grown h (by simp), (blk_new2 w _ _ _).grown h (by simp)⟩
set_option maxHeartbeats 1000000 in
set_option maxRecDepth 100000 in
theorem clone_any (addr : Int) (down : Bool) (A : Option Addr) (n c : Nat) (bs : List Int) (w : World) (hr : ReadI w .u8 A bs) (hn : n = bs.length) (hl : n ≤ 1000000) :
    Calls Try.prog 34 #[gramV addr down A n c] w fun e w' => ∃ A' c', e = .returned (gramV addr down A' bs.length c') ∧ OwnB w' w.heap.size A' c' bs ∧ Below w.heap.size w w' := by
  have HR := Lib.hid (fun (a b : Obj) => (hr.under (below_alloc (below_alloc (Below.refl w.heap.size w) a) b)))
  have HN := Lib.hid hn
  clear hr hn
  go_enter Try.func34, Try.ntmps34
  go_wp2_with (at_builtin; refine wpList_append_to _ rfl _ (.tmp 4) 30 5 .u8 1 rfl Try.underlying30 (by kernel_rfl) (by omega) w.heap.size (.slice none 0 0) [] rfl (OwnI.nil _ _ _ _) A c n bs (by rfl) (HR.out _ _) HN.out n bs rfl (by have := HN.out; simpa using this) (by omega) (by simp; omega) ?_; intro A6 c6 w6 hap; obtain ⟨hX, hY⟩ := two_blk hap.only; have x0 := hX.cell 0; have x1 := hX.cell 1; have x2 := hX.cell 2; have y0 := hY.cell 0; have y1 := hY.cell 1; have y2 := hY.cell 2; have fx := hX.frozen 2; have fy0 := hY.frozen 0; have fy1 := hY.frozen 1; have fy2 := hY.frozen 2; simp at x0 x1 x2 y0 y1 y2; have b6 : Below w.heap.size w w6 := below_of_only (below_alloc (below_alloc (Below.refl w.heap.size w) _) _) hap.only (by simp; omega) (fun g h => by cases h); have z6 : w.heap.size + 2 ≤ w6.heap.size := by have := hap.only.size; simpa using this)
  refine bodyPost_ret (v := gramV addr down A6 n c6) (by simp [results, Try.results34, go_sem, y0, y1, y2]) rfl ?_
  have hn := HN.out
  subst hn
  refine ⟨A6, c6, rfl, ?_, ?_⟩
  · have k : ∀ (i j : Nat) (u : Value), i ≤ 1 → ∀ {W : World}, OwnI W (w.heap.size + 2) 5 .u8 (.slice A6 bs.length c6) bs → OwnI (W.setCell ⟨w.heap.size + i, j, none⟩ u) (w.heap.size + 2) 5 .u8 (.slice A6 bs.length c6) bs := fun i j u hi W ho =>
      (Keeps.setCell (S := fun b => b = w.heap.size + i) (p := ⟨w.heap.size + i, j, none⟩) (Keeps.refl _ W) (.inl rfl) u).own ho (fun g hg e => by have := (ho.lt g hg).1; omega)
    have h0 : OwnI w6 (w.heap.size + 2) 5 .u8 (.slice A6 bs.length c6) bs := by
      rcases hap.own.2 with h | ⟨g, cap, cur, hv, h1, r⟩
      · exact ⟨hap.own.1, .inl h⟩
      · refine ⟨hap.own.1, .inr ⟨g, cap, cur, hv, ?_, r⟩⟩
        rcases hap.where_ with e | e
        · rw [hv] at e; cases e
        · rw [hv] at e; injection e with e; simp at e; omega
    exact OwnI.mono (k 1 2 _ (by omega) (k 1 1 _ (by omega) (k 1 0 _ (by omega) (k 0 2 _ (by omega) h0)))) (by omega)
  · exact (((b6.setCell (by simp) _).setCell (by simp) _).setCell (by simp) _).setCell (by simp) _
end Go.Proofs.Ytkodmoeohffjhaa
