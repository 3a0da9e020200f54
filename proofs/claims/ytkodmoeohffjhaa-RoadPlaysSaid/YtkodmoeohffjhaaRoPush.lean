/- mails' Push walked. -/
import Derived.Test.YtkodmoeohffjhaaRoPop
import Derived.Deep.AppendLies
namespace Go.Proofs.Ytkodmoeohffjhaa
open Go.RowKit
set_option linter.unusedVariables false
set_option linter.unusedSimpArgs false

set_option maxRecDepth 100000 in
theorem assert_mail (z : Value) (w : World) : (Instr.typeAssert (.iface 71 z) 20 71 true).run Try.prog w = .ok (.tuple #[z, .bool true]) w := by kernel_rfl

theorem blk_new2 (w : World) (o : Obj) (t : TypeId) (cs : Array Value) : Blk ((w.alloc o).alloc (.cells cs t)) (w.heap.size + 1) t cs := by
  have e : w.heap.size + 1 = (w.alloc o).heap.size := (Array.size_push ..).symm
  rw [e]
  exact Blk.new _ _ _
set_option maxHeartbeats 1000000 in
set_option maxRecDepth 100000 in
theorem mpush_any (base gr : Nat) (x y v : Value) (L : List ME) (q : ME) (w : World) (h : Fly w base gr x y v L) (hm : L.length < 1000000) (hbase : base ≤ w.heap.size) (hbs : base ≤ gr) :
    Calls Try.prog 84 #[.pointer (some ⟨gr, 2, none⟩), .iface 71 (mailV q)] w fun e w' => e = .returned (.tuple #[]) ∧ ∃ v', Fly w' base gr x y v' (L ++ [q]) ∧ Keeps (fun b => b = gr ∨ v.ownBlock = some b) w w' ∧ (v'.ownBlock = v.ownBlock ∨ ∃ b, v'.ownBlock = some b ∧ w.heap.size ≤ b) := by
  obtain ⟨hB, hO, hoff⟩ := h
  have cB : w.cell? ⟨gr, 2, none⟩ = some v := hB.cell 2
  have lr := hB.lt
  obtain ⟨A, c, rfl, hc, hcm⟩ := hO.form
  have hTA := assert_mail (mailV q) w
  go_enter Try.func84, Try.ntmps84
  go_wp2_with fail
  have one : ∀ u ∈ mcell q, u.oneCell' = true := by intro u hu; simp [mcell] at hu; rcases hu with rfl | rfl | rfl | rfl | rfl <;> rfl
  have lc := cB
  have hne : some gr ≠ (Value.slice A L.length c).ownBlock := fun e => hoff e.symm
  go_region_law ((refine step_append_cells _ rfl (.tmp 15) (.tmp 17) 67 71 5 56 (by rfl) Try.underlying67 (by kernel_rfl) (by omega) (by omega) base (.slice A L.length c) L.length (L.flatMap mcell) (by rfl) (hO.under (below_drew (below_alloc (below_alloc (Below.refl w.heap.size w) _) _))) (some ⟨w.heap.size + 1, 0, none⟩) 1 1 (mcell q) (by rfl) (Blk.read (Blk.drew (blk_new2 w _ _ _))) rfl one (L.length + 1) rfl _ rfl (by omega) (Nat.le_trans hbase (below_drew (below_alloc (below_alloc (Below.refl w.heap.size w) _) _)).size) ?_; intro A6 c6 w6 hap6; have hB6 := (Blk.drew ((hB.alloc _).alloc _)).grown hap6.only hne; have y0 : w6.cell? ⟨gr, 2, none⟩ = some (.slice A L.length c) := hB6.cell 2; have yf := hB6.frozen 2))
  all_goals
    have hb := hap6.only.size
    have hz : w.heap.size ≤ w6.heap.size := Nat.le_trans (below_drew (below_alloc (below_alloc (Below.refl w.heap.size w) _) _)).size hb
    have h6 : (Value.slice A6 (L.length + 1) c6).ownBlock ≠ some gr := by
      rcases hap6.where_ with e | e
      · rw [e]; exact hoff
      · rw [e]
        intro e2
        have := (below_drew (below_alloc (below_alloc (Below.refl w.heap.size w) (.cells (mcell q).toArray 71)) (.cells (mcell q).toArray 71))).size
        have e3 := Option.some.inj e2
        rw [← e3] at lr
        exact absurd lr (Nat.not_lt.2 this)
    go_end0
    refine ⟨rfl, .slice A6 (L.length + 1) c6, ⟨hB6.s3_2 _, ?_, h6⟩, ?_, ?_⟩
    · have := hap6.own.only (only_set (only_refl w6 (some gr)) 2 (.slice A6 (L.length + 1) c6)) (.inr h6)
      simpa [List.flatMap_append] using this
    · exact ((Keeps.under (below_drew (below_alloc (below_alloc (Below.refl w.heap.size w) _) _)) _).trans (Keeps.grown (S := fun b => b = gr ∨ (Value.slice A L.length c).ownBlock = some b) hap6.only (fun g e => .inr e)) (fun _ h _ => h)).setCell (p := ⟨gr, 2, none⟩) (.inl (.inl rfl)) _
    · rcases hap6.where_ with e | e
      · exact .inl e
      · exact .inr ⟨_, e, (below_drew (below_alloc (below_alloc (Below.refl w.heap.size w) _) _)).size⟩
end Go.Proofs.Ytkodmoeohffjhaa
