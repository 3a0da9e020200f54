/- The document's without walked. -/
import Derived.Test.YtkodmoeohffjhaaRoRadd
import Derived.BigRegion
namespace Go.Proofs.Ytkodmoeohffjhaa
open Go.RowKit Go.Proofs.Ytkodmoeohffjhaa.Hp
set_option linter.unusedVariables false
set_option linter.unusedSimpArgs false

/-- Several mails more, whose bytes are of T. -/
theorem RRow.many {T : Nat → Prop} {w0 w w1 : World} {v v' : Value} {X Y : List ME} {m : Nat} (h : RRow T w0 v X w) (hq : ∀ q ∈ Y, ReadI w .u8 q.2.1 q.1.bs ∧ ∀ b, q.blk = some b → T b) (hm : m = X.length + Y.length)
    (ha : AppedR w w1 w0.heap.size 80 5 v v' m (X.flatMap mcell ++ Y.flatMap mcell)) : RRow T w0 v' (X ++ Y) w1 := by
  subst hm
  have k : Keeps (fun b => v.ownBlock = some b) w w1 := Keeps.grown ha.only (fun g hg => hg)
  have hz := k.size
  have lim : ∀ b, Plus T w0 w b → b < w.heap.size := fun b e => by
    rcases e with e | e
    · have := h.tlt b e; have := h.below.size; omega
    · exact e.2
  have hoff : ∀ b, Plus T w0 w b → v.ownBlock ≠ some b → v'.ownBlock ≠ some b := fun b e hn hv => by
    rcases ha.where_ with x | x
    · rw [x] at hv; exact hn hv
    · rw [x] at hv; injection hv with hv; have := lim b e; omega
  have hall : ∀ p ∈ X ++ Y, ReadI w .u8 p.2.1 p.1.bs ∧ ∀ b, p.blk = some b → v.ownBlock ≠ some b ∧ Plus T w0 w b := by
    intro p hp
    rcases List.mem_append.1 hp with hp | hp
    · exact ⟨h.bytes p hp, fun b e => ⟨h.off p hp b e, h.own p hp b e⟩⟩
    · exact ⟨(hq p hp).1, fun b e => ⟨fun x => by have := (OwnR.blocks h.row b x).1; have := h.tlt b ((hq p hp).2 b e); omega, .inl ((hq p hp).2 b e)⟩⟩
  refine ⟨by have := ha.own; rw [List.flatMap_append]; simpa using this, fun p hp => k.readI (hall p hp).1 (fun b o e => ((hall p hp).2 b ((blk_some p b).2 ⟨o, none, e⟩)).1), fun p hp b e => hoff b ((hall p hp).2 b e).2 ((hall p hp).2 b e).1, fun p hp b e => ((hall p hp).2 b e).2.imp_right (fun x => ⟨x.1, by omega⟩), h.tlt, ?_⟩
  exact Keeps.below h.below k h.below.size (fun b e => (OwnR.blocks h.row b e).1)
theorem readC_take {w : World} {A : Option Addr} {G : List ME} (h : ReadC w A (G.flatMap mcell)) (i : Nat) : ReadC w A ((G.take i).flatMap mcell) := fun hne => by
  have hG : G.flatMap mcell ≠ [] := fun e => by
    rw [← flat_take, e] at hne
    simp at hne
  obtain ⟨b, o, e, hc⟩ := h hG
  refine ⟨b, o, e, fun j u hu => hc j u ?_⟩
  rw [← flat_take] at hu
  rw [List.getElem?_take] at hu
  split at hu
  · exact hu
  · cases hu
theorem flat_drop : ∀ (L : List ME) (m : Nat), (L.flatMap mcell).drop (m * 5) = (L.drop m).flatMap mcell
  | [], m => by simp
  | q :: L, 0 => by simp
  | q :: L, m + 1 => by
    rw [List.drop_succ_cons, List.flatMap_cons, ← flat_drop L m]
    have : (m + 1) * 5 = (mcell q).length + m * 5 := by simp [mcell]; omega
    rw [this, List.drop_append, List.drop_eq_nil_of_le (by omega), List.nil_append]
    congr 1
    omega
theorem readC_drop {w : World} {b o : Nat} {G : List ME} (h : ReadC w (some ⟨b, o, none⟩) (G.flatMap mcell)) (i : Nat) : ReadC w (some ⟨b, o + i * 5, none⟩) ((G.drop i).flatMap mcell) := fun hne => by
  have hG : G.flatMap mcell ≠ [] := fun e => by
    rw [← flat_drop, e] at hne
    simp at hne
  obtain ⟨b', o', e, hc⟩ := h hG
  cases e
  refine ⟨b, o + i * 5, rfl, fun j u hu => ?_⟩
  rw [Nat.add_assoc]
  refine hc (i * 5 + j) u ?_
  rw [← flat_drop, List.getElem?_drop] at hu
  exact hu
theorem many_one (L : List ME) : ∀ u ∈ L.flatMap mcell, u.oneCell' = true := by
  intro u hu
  obtain ⟨q, _, hu⟩ := List.mem_flatMap.1 hu
  exact one_mcell q u hu
theorem with_row {T : Nat → Prop} {w0 w : World} {A : Option Addr} {i c : Nat} {G : List ME} (h : RRow T w0 (.slice A i c) (G.take i) w) (hi : i < G.length) : OwnR w w0.heap.size 80 5 (.slice A i c) i ((G.take i).flatMap mcell) := by
  have := h.row
  rwa [List.length_take, Nat.min_eq_left (by omega)] at this
/-- The first part behind the empty row. -/
theorem with1 {T : Nat → Prop} {w w2 w6 : World} {v v' : Value} {G : List ME} {i : Nat} {o : Obj} {t : TypeId} {cs : Array Value} (hS : RRow T w2 v [] (w2.alloc o)) (hx : Blk w2 w.heap.size t cs) (hG : Below w.heap.size w w2 ∧ ∀ q ∈ G, ReadI w .u8 q.2.1 q.1.bs ∧ ∀ b, q.blk = some b → T b) (hi : i < G.length)
    (ha : AppedR (w2.alloc o).drew w6 w2.heap.size 80 5 v v' i ((G.take i).flatMap mcell)) : RRow T w2 v' (G.take i) w6 ∧ Below w.heap.size w w6 := by
  have h1 := hS.under (below_drew (Below.refl _ _))
  have hw := hG.1.trans (h1.below.mono hG.1.size)
  have h2 := h1.many (Y := G.take i) (fun q hq => ⟨((hG.2 q (List.mem_of_mem_take hq)).1.under hw), (hG.2 q (List.mem_of_mem_take hq)).2⟩) (by rw [List.length_take, Nat.min_eq_left (by omega)]; simp) ha
  exact ⟨h2, hG.1.trans (h2.below.mono hG.1.size)⟩
/-- The second part behind the first. -/
theorem with2 {T : Nat → Prop} {w w2 w6 w7 : World} {A : Option Addr} {c n : Nat} {v' : Value} {G : List ME} {i : Nat} {t : TypeId} {cs : Array Value} (h6 : RRow T w2 (.slice A i c) (G.take i) w6) (hb : Below w.heap.size w w6) (hx : Blk w2 w.heap.size t cs) (hG : Below w.heap.size w w2 ∧ ∀ q ∈ G, ReadI w .u8 q.2.1 q.1.bs ∧ ∀ b, q.blk = some b → T b) (hi : i < G.length) (hn : G.length = n)
    (ha : AppedR w6 w7 w2.heap.size 80 5 (.slice A i c) v' (n - 1) ((G.take i).flatMap mcell ++ (G.drop (i + 1)).flatMap mcell)) : RRow T w2 v' (G.take i ++ G.drop (i + 1)) w7 :=
  h6.many (fun q hq => ⟨((hG.2 q (List.mem_of_mem_drop hq)).1.under hb), (hG.2 q (List.mem_of_mem_drop hq)).2⟩) (by rw [List.length_take, Nat.min_eq_left (by omega), List.length_drop]; omega) ha
theorem two_blk2 {w w2 : World} {t1 t2 : TypeId} {X Y : Array Value} (h : w2 = (w.alloc (.cells X t1)).alloc (.cells Y t2)) :
    Below w.heap.size w w2 ∧ w2.heap.size = w.heap.size + 1 + 1 ∧ Blk w2 w.heap.size t1 X ∧ Blk w2 (w.heap.size + 1) t2 Y := by
  subst h
  refine ⟨below_alloc (below_alloc (Below.refl _ _) _) _, by simp, (Blk.new w t1 X).alloc _, blk_new2 w _ _ _⟩
theorem with_keeps {w w2 wr : World} (hz : w2.heap.size = w.heap.size + 1 + 1) (a b c d : Value) : Keeps (fun x => w.heap.size ≤ x ∧ x < w2.heap.size) wr ((((wr.setCell ⟨w.heap.size, 2, none⟩ a).setCell ⟨w.heap.size + 1, 0, none⟩ b).setCell ⟨w.heap.size + 1, 1, none⟩ c).setCell ⟨w.heap.size + 1, 2, none⟩ d) :=
  ((((Keeps.refl (fun x => w.heap.size ≤ x ∧ x < w2.heap.size) wr).setCell (p := ⟨w.heap.size, 2, none⟩) (.inl ⟨by simp, by simp only; omega⟩) a).setCell (p := ⟨w.heap.size + 1, 0, none⟩) (.inl ⟨by simp only; omega, by simp only; omega⟩) b).setCell (p := ⟨w.heap.size + 1, 1, none⟩) (.inl ⟨by simp only; omega, by simp only; omega⟩) c).setCell (p := ⟨w.heap.size + 1, 2, none⟩) (.inl ⟨by simp only; omega, by simp only; omega⟩) d
theorem erase_map {G : List ME} {F : List MD} {i : Nat} (h : G.map Prod.fst = F) : (G.take i ++ G.drop (i + 1)).map Prod.fst = F.eraseIdx i := by
  rw [← h, List.eraseIdx_eq_take_drop_succ, List.map_append, List.map_take, List.map_drop]
set_option maxHeartbeats 4000000 in
set_option maxRecDepth 100000 in
theorem without_any (now put : Int) (b o n c i : Nat) (F : List MD) (T : Nat → Prop) (w : World) (hF : RefF F T (some ⟨b, o, none⟩) c w) (hn : n = F.length) (hl : n ≤ 5000) (hi : i < n) :
    Calls Try.prog 32 #[refV now put (some ⟨b, o, none⟩) n c, .int .i64 i] w (RAnsF now put (F.eraseIdx i) T w) := by
  have hcn : n ≤ c := by rw [hn]; exact hF.cap
  obtain ⟨w2, hw2⟩ : ∃ w2, w2 = (w.alloc (.cells #[.int .i64 now, .int .i64 put, .slice (some ⟨b, o, none⟩) n c] 48)).alloc (.cells #[.int .i64 0, .int .i64 0, .slice none 0 0] 48) := ⟨_, rfl⟩
  obtain ⟨hb2, hz2, x2, x3⟩ := two_blk2 hw2
  obtain ⟨G, g1, g2, g3, g4⟩ := hF.out
  have hgl : G.length = n := by rw [hn, ← g1]; simp
  have HW := Lib.hid hw2
  have HZ := Lib.hid hz2
  have HX2 := Lib.hid x2
  have HX3 := Lib.hid x3
  have HST := Lib.hid (RRow.start (T := T) (w0 := w2) (fun b hb => by have := hF.lt b hb; omega) (Below.refl _ w2) (w.heap.size + 1 + 1) hz2.symm)
  have HGT := Lib.hid (show Below w.heap.size w w2 ∧ ∀ q ∈ G, ReadI w .u8 q.2.1 q.1.bs ∧ ∀ b, q.blk = some b → T b from ⟨hb2, fun q hq => ⟨g3 q hq, g4 q hq⟩⟩)
  have HTK := Lib.hid (show i < G.length by omega)
  have HGL := Lib.hid hgl
  have HR1 := Lib.hid (readC_take g2 i)
  have HR2 := Lib.hid (readC_drop g2 (i + 1))
  have HL1 := Lib.hid (show ((G.take i).flatMap mcell).length = i * 5 by rw [mcell_len, List.length_take, Nat.min_eq_left (by omega)])
  have HL2 := Lib.hid (show ((G.drop (i + 1)).flatMap mcell).length = (n - (i + 1)) * 5 by rw [mcell_len, List.length_drop, hgl])
  have HI1 := Lib.hid (show i ≤ 17179869184 by omega)
  have HI2 := Lib.hid (show n - 1 ≤ 17179869184 by omega)
  have HI3 := Lib.hid (show n - 1 = i + (n - (i + 1)) by omega)
  have HF := Lib.hid hF
  have HG1 := Lib.hid g1
  have HN := Lib.hid hn
  have HFE := Lib.hid (erase_map (i := i) g1)
  have HNE := Lib.hid (show n - 1 = (F.eraseIdx i).length by rw [List.length_eraseIdx, if_pos (by omega)]; omega)
  have HTL := Lib.hid hF.lt
  have z0 := x2.cell 0
  have z1 := x2.cell 1
  have z2 := x2.cell 2
  have y0 := x3.cell 0
  have y1 := x3.cell 1
  have y2 := x3.cell 2
  have f3 := x3.frozen 2
  have f2 := x2.frozen 2
  clear hF hn g1 g2 g3 g4 hgl hb2 hw2 x2 x3
  have hic : i ≤ c := by omega
  have hic1 : i + 1 ≤ n := by omega
  have s1 : IntKind.i64.wrap ((i : Int) + 1) = (i : Int) + 1 := IntWalk.i64_in _ (by omega)
  have s2 : 0 ≤ (i : Int) + 1 := by omega
  have s3 : ((i : Int) + 1).toNat = i + 1 := by omega
  have s4 : (i : Int) + 1 ≤ (n : Int) := by omega
  have s5 : (i : Int) ≤ (i : Int) + 1 := by omega
  by_cases hcap : c = i + 1
  · subst hcap
    have HL0 := Lib.hid (show ((G.drop (i + 1)).flatMap mcell).length = 0 * 5 by rw [HL2.out]; omega)
    have HI0 := Lib.hid (show n - 1 = i + 0 by omega)
    have HR0 := Lib.hid (show ReadC w (some ⟨b, o, none⟩) ((G.drop (i + 1)).flatMap mcell) from fun hne => absurd (List.eq_nil_of_length_eq_zero (by rw [HL2.out]; omega)) hne)
    go_enter Try.func32, Try.ntmps32
    go_upto_region 1 with (fail)
    rw [← HW.out]
    simp only [List.getElem?_toArray, List.getElem?_cons_zero, List.getElem?_cons_succ] at z0 z1 z2 y0 y1 y2
    have HRD := Lib.hid (HST.out.row.under (below_drew (Below.refl _ (w2.alloc (.cells #[] 80)))))
    have HRC := Lib.hid (HR1.out.under (below_drew (below_alloc HGT.out.1 (.cells #[] 80))))
    have HSZ := Lib.hid (show w2.heap.size ≤ (w2.alloc (.cells #[] 80)).drew.heap.size by simp)
    go_region_law (first
      | (refine step_append_cells _ rfl (.tmp 5) (.tmp 9) 46 80 5 56 (by rfl) Try.underlying46 (by kernel_rfl) (by omega) (by omega) w2.heap.size (.slice (some ⟨w.heap.size + 1 + 1, 0, none⟩) 0 0) 0 [] (by rfl) HRD.out (some ⟨b, o, none⟩) (i + 1) i ((G.take i).flatMap mcell) (by rfl) HRC.out HL1.out (many_one _) i (Nat.zero_add i).symm ((G.take i).flatMap mcell) rfl HI1.out HSZ.out ?_; intro A6 c6 w6 hap; obtain ⟨hr6, hb6⟩ := with1 HST.out HX2.out HGT.out HTK.out hap; have HR6 := Lib.hid hr6; have HB6 := Lib.hid hb6; have u6 : w6.cell? ⟨w.heap.size, 2, none⟩ = some (.slice (some ⟨b, o, none⟩) n (i + 1)) := (HX2.out.under hr6.below).cell 2; have hz6 := hr6.below.size; have HROW6 := Lib.hid (with_row hr6 HTK.out); clear hap hr6 hb6)
      | (refine step_append_cells _ rfl (.tmp 10) (.tmp 15) 46 80 5 56 (by rfl) Try.underlying46 (by kernel_rfl) (by omega) (by omega) w2.heap.size (.slice A6 i c6) i ((G.take i).flatMap mcell) (by rfl) HROW6.out (some ⟨b, o, none⟩) 0 0 ((G.drop (i + 1)).flatMap mcell) (by rfl) (HR0.out.under HB6.out) HL0.out (many_one _) (n - 1) HI0.out _ rfl HI2.out hz6 ?_; intro A7 c7 w7 hap; have hr7 := with2 HR6.out HB6.out HX2.out HGT.out HTK.out HGL.out hap; have a0 := HX2.out.under hr7.below; have a8 := HX3.out.under hr7.below; have lz7 := hr7.below.size; have b0 : w7.cell? ⟨w.heap.size, 0, none⟩ = some (.int .i64 now) := a0.cell 0; have b1 : w7.cell? ⟨w.heap.size, 1, none⟩ = some (.int .i64 put) := a0.cell 1; have b9 : w7.cell? ⟨w.heap.size, 2, none⟩ = some (.slice (some ⟨b, o, none⟩) n (i + 1)) := a0.cell 2; have b2 : w7.frozen? ⟨w.heap.size, 2, none⟩ = false := a0.frozen 2; have e0 : w7.cell? ⟨w.heap.size + 1, 0, none⟩ = some (.int .i64 0) := a8.cell 0; have e1 : w7.cell? ⟨w.heap.size + 1, 1, none⟩ = some (.int .i64 0) := a8.cell 1; have e2 : w7.cell? ⟨w.heap.size + 1, 2, none⟩ = some (.slice none 0 0) := a8.cell 2; have e3 : w7.frozen? ⟨w.heap.size + 1, 0, none⟩ = false := a8.frozen 0; have e4 : w7.frozen? ⟨w.heap.size + 1, 1, none⟩ = false := a8.frozen 1; have e5 : w7.frozen? ⟨w.heap.size + 1, 2, none⟩ = false := a8.frozen 2; have HR7 := Lib.hid hr7; clear hap hr7 a0 a8))
    all_goals
      have lw1 : w.heap.size + 1 < w7.heap.size := by omega
      go_wp2_with fail
      refine bodyPost_ret (v := refV now put A7 (n - 1) c7) (by simp [results, Try.results32, go_sem, e0, e1, e2]) rfl ?_
      obtain ⟨f1, f2⟩ := radd_fin HR7.out HFE.out HNE.out HTL.out HGT.out.1 (with_keeps HZ.out _ _ _ _)
      exact ⟨A7, c7, by rw [← HNE.out], f1, f2⟩
  · go_enter Try.func32, Try.ntmps32
    go_upto_region 1 with (fail)
    rw [← HW.out]
    simp only [List.getElem?_toArray, List.getElem?_cons_zero, List.getElem?_cons_succ] at z0 z1 z2 y0 y1 y2
    have HRD := Lib.hid (HST.out.row.under (below_drew (Below.refl _ (w2.alloc (.cells #[] 80)))))
    have HRC := Lib.hid (HR1.out.under (below_drew (below_alloc HGT.out.1 (.cells #[] 80))))
    have HSZ := Lib.hid (show w2.heap.size ≤ (w2.alloc (.cells #[] 80)).drew.heap.size by simp)
    go_region_law (first
      | (refine step_append_cells _ rfl (.tmp 5) (.tmp 9) 46 80 5 56 (by rfl) Try.underlying46 (by kernel_rfl) (by omega) (by omega) w2.heap.size (.slice (some ⟨w.heap.size + 1 + 1, 0, none⟩) 0 0) 0 [] (by rfl) HRD.out (some ⟨b, o, none⟩) c i ((G.take i).flatMap mcell) (by rfl) HRC.out HL1.out (many_one _) i (Nat.zero_add i).symm ((G.take i).flatMap mcell) rfl HI1.out HSZ.out ?_; intro A6 c6 w6 hap; obtain ⟨hr6, hb6⟩ := with1 HST.out HX2.out HGT.out HTK.out hap; have HR6 := Lib.hid hr6; have HB6 := Lib.hid hb6; have u6 : w6.cell? ⟨w.heap.size, 2, none⟩ = some (.slice (some ⟨b, o, none⟩) n c) := (HX2.out.under hr6.below).cell 2; have hz6 := hr6.below.size; have HROW6 := Lib.hid (with_row hr6 HTK.out); clear hap hr6 hb6)
      | (refine step_append_cells _ rfl (.tmp 10) (.tmp 15) 46 80 5 56 (by rfl) Try.underlying46 (by kernel_rfl) (by omega) (by omega) w2.heap.size (.slice A6 i c6) i ((G.take i).flatMap mcell) (by rfl) HROW6.out (some ⟨b, o + (i + 1) * 5, none⟩) (c - (i + 1)) (n - (i + 1)) ((G.drop (i + 1)).flatMap mcell) (by rfl) (HR2.out.under HB6.out) HL2.out (many_one _) (n - 1) HI3.out _ rfl HI2.out hz6 ?_; intro A7 c7 w7 hap; have hr7 := with2 HR6.out HB6.out HX2.out HGT.out HTK.out HGL.out hap; have a0 := HX2.out.under hr7.below; have a8 := HX3.out.under hr7.below; have lz7 := hr7.below.size; have b0 : w7.cell? ⟨w.heap.size, 0, none⟩ = some (.int .i64 now) := a0.cell 0; have b1 : w7.cell? ⟨w.heap.size, 1, none⟩ = some (.int .i64 put) := a0.cell 1; have b9 : w7.cell? ⟨w.heap.size, 2, none⟩ = some (.slice (some ⟨b, o, none⟩) n c) := a0.cell 2; have b2 : w7.frozen? ⟨w.heap.size, 2, none⟩ = false := a0.frozen 2; have e0 : w7.cell? ⟨w.heap.size + 1, 0, none⟩ = some (.int .i64 0) := a8.cell 0; have e1 : w7.cell? ⟨w.heap.size + 1, 1, none⟩ = some (.int .i64 0) := a8.cell 1; have e2 : w7.cell? ⟨w.heap.size + 1, 2, none⟩ = some (.slice none 0 0) := a8.cell 2; have e3 : w7.frozen? ⟨w.heap.size + 1, 0, none⟩ = false := a8.frozen 0; have e4 : w7.frozen? ⟨w.heap.size + 1, 1, none⟩ = false := a8.frozen 1; have e5 : w7.frozen? ⟨w.heap.size + 1, 2, none⟩ = false := a8.frozen 2; have HR7 := Lib.hid hr7; clear hap hr7 a0 a8))
    all_goals
      have lw1 : w.heap.size + 1 < w7.heap.size := by omega
      go_wp2_with fail
      refine bodyPost_ret (v := refV now put A7 (n - 1) c7) (by simp [results, Try.results32, go_sem, e0, e1, e2]) rfl ?_
      obtain ⟨f1, f2⟩ := radd_fin HR7.out HFE.out HNE.out HTL.out HGT.out.1 (with_keeps HZ.out _ _ _ _)
      exact ⟨A7, c7, by rw [← HNE.out], f1, f2⟩
end Go.Proofs.Ytkodmoeohffjhaa
