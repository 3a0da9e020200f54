/- Road.place walked. -/
import Derived.Test.YtkodmoeohffjhaaRoSort
import Derived.Test.YtkodmoeohffjhaaRoSend
namespace Go.Proofs.Ytkodmoeohffjhaa
open Go.RowKit Go.Proofs.Ytkodmoeohffjhaa.Hp Go.Sort
set_option linter.unusedVariables false
set_option linter.unusedSimpArgs false

theorem OwnR.some_ {w : World} {base : Nat} {e : TypeId} {size n : Nat} {v : Value} {xs : List Value} (h : OwnR w base e size v n xs) (hn : 0 < n) : ∃ g c, v = .slice (some ⟨g, 0, none⟩) n c ∧ base ≤ g ∧ g < w.heap.size := by
  obtain ⟨A, c, rfl, _, _⟩ := OwnR.form h
  rcases h.2 with ⟨_, h0⟩ | ⟨g, cap, cur, hv, _⟩
  · omega
  · have hb := h.blocks g (by rw [hv]; rfl)
    injection hv with e1 e2 e3
    subst e1 e3
    exact ⟨g, c, rfl, hb.1, hb.2⟩
set_option maxRecDepth 100000 in
theorem pred_any (bl bi gl n c i : Nat) (z : Int) (w : World) (hl : w.cell? ⟨bl, 0, none⟩ = some (.slice (some ⟨gl, 0, none⟩) n c)) (hi : w.cell? ⟨bi, 0, none⟩ = some (.int .i64 i)) (hc : w.cell? ⟨gl, i * 5 + 1, none⟩ = some (.int .i64 z)) (hin : i < n) (hn : n < 1000000) :
    PredBelow Try.prog 42 #[.pointer (some ⟨bl, 0, none⟩), .pointer (some ⟨bi, 0, none⟩)] (fun x : ME => .agg (mcell x).toArray) (fun x => decide (x.1.number = z)) w := fun W x hb => by
  have l1 := World.block_lt_of_cell? w _ hl
  have l2 := World.block_lt_of_cell? w _ hi
  have l3 := World.block_lt_of_cell? w _ hc
  simp only at l1 l2 l3
  have c1 := (hb.cell (p := ⟨bl, 0, none⟩) l1).trans hl
  have c2 := (hb.cell (p := ⟨bi, 0, none⟩) l2).trans hi
  have c3 := (hb.cell (p := ⟨gl, i * 5 + 1, none⟩) l3).trans hc
  have hz := hb.size
  have n1 : bl < W.heap.size := by omega
  have n2 : bi < W.heap.size := by omega
  have n3 : gl < W.heap.size := by omega
  have HB := Lib.hid hb
  obtain ⟨⟨d, m, a, o, bs⟩, vv⟩ := x
  have e0 : (mcell (⟨d, m, a, o, bs⟩, vv)).toArray = #[.int .i64 d, .int .i64 m, .int .i64 a, .bool o, .slice vv.1 bs.length vv.2] := rfl
  simp only [e0]
  obtain ⟨b, hbv⟩ : ∃ b : Bool, b = decide (m = z) := ⟨_, rfl⟩
  have HV := Lib.hid hbv
  rw [← hbv]
  clear hbv e0 hb hl hi hc
  show Calls Try.prog 42 #[.agg #[.int .i64 d, .int .i64 m, .int .i64 a, .bool o, .slice vv.1 bs.length vv.2], .pointer (some ⟨bl, 0, none⟩), .pointer (some ⟨bi, 0, none⟩)] W _
  go_enter Try.func42, Try.ntmps42
  go_upto_region 1 with (fail)
  go_quiet (fail)
  all_goals
    go_wp2_with fail
    go_ret
    exact ⟨by rw [HV.out]; first | rfl | (apply ret_bool; rw [Bool.eq_iff_iff]; simp), below_drewN (HB.out.alloc hz _) _⟩
theorem clonem_any (g n c : Nat) (L : List ME) (w : World) (h : ReadC w (some ⟨g, 0, none⟩) (L.flatMap mcell)) (hn : n = L.length) (h0 : 0 < n) (hm : n < 1000000) :
    Calls Try.prog 37 #[.slice (some ⟨g, 0, none⟩) n c] w fun e w' => ∃ gl c', e = .returned (.slice (some ⟨gl, 0, none⟩) n c') ∧ OwnR w' w.heap.size 71 5 (.slice (some ⟨gl, 0, none⟩) n c') n (L.flatMap mcell) ∧ w.heap.size ≤ gl ∧ gl < w'.heap.size ∧ Below w.heap.size w w' := by
  subst hn
  have hi : (Try.prog.info? 71).map (fun i => (i.zero.map fun z => z.cells.size, i.size, i.bytes)) = some (some 5, 5, 56) := by kernel_rfl
  obtain ⟨i, hi0⟩ : ∃ i, Try.prog.info? 71 = some i := by
    cases hq : Try.prog.info? 71 with
    | none => simp [hq] at hi
    | some i => exact ⟨i, rfl⟩
  rw [hi0] at hi
  simp only [Option.map_some, Option.some.injEq, Prod.mk.injEq] at hi
  obtain ⟨hz, hs2, hb2⟩ := hi
  obtain ⟨z, hz1, hz2⟩ := Option.map_eq_some_iff.1 hz
  have hne : L.flatMap mcell ≠ [] := fun e => by have := congrArg List.length e; rw [mcell_len] at this; simp at this; omega
  have h1 : ∀ u ∈ L.flatMap mcell, u.oneCell' = true := by
    intro u hu
    obtain ⟨q, _, hu⟩ := List.mem_flatMap.1 hu
    simp [mcell] at hu
    rcases hu with rfl | rfl | rfl | rfl | rfl <;> rfl
  obtain ⟨b, o, e, hc⟩ := h hne
  cases e
  have := AnyE.slices_Clone (P := Try.prog) (ρ := Try.cloneM_ren) Try.cloneM i z 5 56 hi0 hz1 hs2 hb2 hz2 (by omega) Try.sizeOf71 g 0 L.length c (L.flatMap mcell) w (mcell_len L) (by simp only [maxLen]; omega) (by omega) hc h1
  refine Calls.mono this ?_
  rintro e w' ⟨v', rfl, ho, hn, hb⟩
  obtain ⟨gl, c', rfl, h2, h3⟩ := OwnR.some_ ho h0
  exact ⟨gl, c', rfl, ho, h2, h3, hb⟩
theorem place_nil (i : Int) (w : World) : Calls Try.prog 29 #[.pointer none, .int .i64 i] w fun e w' => e = .returned (.int .i64 (-1)) ∧ Below w.heap.size w w' := by
  go_enter Try.func29, Try.ntmps29
  go_upto_region 1 with (fail)
  go_quiet (fail)
  go_wp2_with fail
  go_ret
  exact ⟨rfl, below_drewN (below_alloc (Below.refl _ _) _) _⟩
theorem place_bad (B gr : Nat) (now put : Int) (v : Value) (L : List ME) (i : Int) (w : World) (h : RoadAt B gr now put v L w) (hL : L.length < 99999) (hi : i < 0 ∨ (L.length : Int) ≤ i) :
    Calls Try.prog 29 #[.pointer (some ⟨gr, 0, none⟩), .int .i64 i] w fun e w' => e = .returned (.int .i64 (-1)) ∧ Below w.heap.size w w' := by
  obtain ⟨A0, c0, rfl, _, _⟩ := OwnR.form h.fly.own
  have c2 : w.cell? ⟨gr, 2, none⟩ = some (.slice A0 L.length c0) := h.fly.blk.cell 2
  have lt := h.lt
  clear h
  by_cases h0 : i < 0
  · clear hi
    go_enter Try.func29, Try.ntmps29
    go_upto_region 1 with (fail)
    go_quiet (fail)
    go_wp2_with fail
    go_ret
    exact ⟨rfl, below_drewN (below_alloc (Below.refl _ _) _) _⟩
  · have t0 : decide (i < 0) = false := decide_eq_false h0
    have t1 : (L.length : Int) ≤ i := by omega
    clear hi
    go_enter Try.func29, Try.ntmps29
    go_upto_region 1 with (fail)
    go_quiet (fail)
    go_wp2_with fail
    go_ret
    exact ⟨rfl, below_drewN (below_alloc (Below.refl _ _) _) _⟩
/-- Numbers that are each given once. -/
abbrev Nums (L : List ME) : Prop := L.Pairwise (fun a b => a.1.number ≠ b.1.number)
/-- What place answers: where in the heap the i-th one in order stands. -/
def Placed (L : List ME) (i : Nat) (w : World) (e : Ending) (w' : World) : Prop :=
  ∃ (k : Nat) (q : ME) (D : List ME), e = .returned (.int .i64 k) ∧ D.Perm L ∧ D.Pairwise (fun a b => mlt b a = false) ∧ D[i]? = some q ∧ L[k]? = some q ∧ Below w.heap.size w w'
theorem idx_of {L D : List ME} {i : Nat} {q : ME} (hN : Nums L) (hp : D.Perm L) (hq : D[i]? = some q) : ∃ k : Nat, Lib.idxBy (fun _ y => decide (y.1.number = q.1.number)) (L.take L.length) default = (k : Int) ∧ L[k]? = some q := by
  have hm : q ∈ L := hp.mem_iff.1 (List.mem_of_getElem? hq)
  obtain ⟨k, hk, e⟩ := List.getElem_of_mem hm
  have hN' := List.pairwise_iff_getElem.1 hN
  refine ⟨k, ?_, by rw [List.getElem?_eq_getElem hk, e]⟩
  refine Lib.idxBy_hit _ L L.length k default hk (Nat.le_refl _) ?_ (fun j hj => ?_)
  · rw [getElem!_pos L k hk, e]
    simp
  · have := hN' j k (by omega) hk hj
    rw [getElem!_pos L j (by omega), decide_eq_false_iff_not]
    rw [e] at this
    exact this
theorem place1 {w w1 : World} {gr nq i gl g n c : Nat} {T : TypeId} (lt : gr < w.heap.size) (c2 : w.cell? ⟨gr, 2, none⟩ = some (.slice (some ⟨g, 0, none⟩) n c)) (hb : Below ((w.alloc (.cells #[.int .i64 i] T)).drewN nq).heap.size ((w.alloc (.cells #[.int .i64 i] T)).drewN nq) w1) (hg : ((w.alloc (.cells #[.int .i64 i] T)).drewN nq).heap.size ≤ gl) :
    w.heap.size < gl ∧ Below w.heap.size w w1 ∧ w1.cell? ⟨gr, 2, none⟩ = some (.slice (some ⟨g, 0, none⟩) n c) ∧ w1.cell? ⟨w.heap.size, 0, none⟩ = some (.int .i64 i) := by
  have hz : ((w.alloc (.cells #[.int .i64 i] T)).drewN nq).heap.size = w.heap.size + 1 := by simp
  rw [hz] at hg
  have hb0 : Below w.heap.size w w1 := (below_drewN (below_alloc (Below.refl w.heap.size w) _) nq).trans (hb.mono (by rw [hz]; omega))
  refine ⟨by omega, hb0, (hb0.cell (p := ⟨gr, 2, none⟩) lt).trans c2, ?_⟩
  have := (Blk.drewN (Blk.new w T #[.int .i64 i]) nq).under hb
  exact this.cell 0
theorem place2 {w w1 w2 : World} {gr i gl g n c c1 : Nat} {L D : List ME} {T : TypeId} (hi : i < L.length) (hS : Sorted (w1.alloc (.cells #[.slice (some ⟨gl, 0, none⟩) n c1] T)) gl L D w2) (hg : w.heap.size < gl) (hg1 : gl < w1.heap.size) (lt : gr < w.heap.size) (hb : Below w.heap.size w w1)
    (x1 : w1.cell? ⟨gr, 2, none⟩ = some (.slice (some ⟨g, 0, none⟩) n c)) (x2 : w1.cell? ⟨w.heap.size, 0, none⟩ = some (.int .i64 i)) :
    ∃ q, D[i]? = some q ∧ Below w.heap.size w w2 ∧ w2.cell? ⟨gr, 2, none⟩ = some (.slice (some ⟨g, 0, none⟩) n c) ∧ w2.cell? ⟨w1.heap.size, 0, none⟩ = some (.slice (some ⟨gl, 0, none⟩) n c1) ∧ w2.cell? ⟨w.heap.size, 0, none⟩ = some (.int .i64 i) ∧ w2.cell? ⟨gl, i * 5 + 1, none⟩ = some (.int .i64 q.1.number) := by
  have hl : i < D.length := by rw [hS.perm.length_eq]; exact hi
  obtain ⟨q, hq⟩ : ∃ q, D[i]? = some q := ⟨_, List.getElem?_eq_getElem hl⟩
  have hz := hb.size
  have k := hS.keeps
  have hb1 : Below w.heap.size w (w1.alloc (.cells #[.slice (some ⟨gl, 0, none⟩) n c1] T)) := hb.alloc hz _
  have a1 : (w1.alloc (.cells #[.slice (some ⟨gl, 0, none⟩) n c1] T)).cell? ⟨gr, 2, none⟩ = some (.slice (some ⟨g, 0, none⟩) n c) := Lib.cell?_alloc_some _ x1
  have a2 : (w1.alloc (.cells #[.slice (some ⟨gl, 0, none⟩) n c1] T)).cell? ⟨w.heap.size, 0, none⟩ = some (.int .i64 i) := Lib.cell?_alloc_some _ x2
  refine ⟨q, hq, Keeps.below hb1 k hb1.size (fun b e => by omega), (k.cell _ (by simp; omega) (by simp; omega)).trans a1, (k.cell _ (by simp) (by simp; omega)).trans ((Blk.new _ _ _).cell 0), (k.cell _ (by simp; omega) (by simp; omega)).trans a2, hS.cell i q hq 1 _ rfl⟩
theorem index_any (g n c bl bi gl c1 i : Nat) (L D : List ME) (q : ME) (w : World) (hR : ReadC w (some ⟨g, 0, none⟩) (L.flatMap mcell)) (hn : n = L.length) (hlg : g < w.heap.size) (hm : n < 1000000) (hN : Nums L) (hp : D.Perm L) (hq : D[i]? = some q)
    (hl : w.cell? ⟨bl, 0, none⟩ = some (.slice (some ⟨gl, 0, none⟩) n c1)) (hi : w.cell? ⟨bi, 0, none⟩ = some (.int .i64 i)) (hc : w.cell? ⟨gl, i * 5 + 1, none⟩ = some (.int .i64 q.1.number)) (hin : i < n) :
    Calls Try.prog 41 #[.slice (some ⟨g, 0, none⟩) n c, .func (.func 42) #[] #[.pointer (some ⟨bl, 0, none⟩), .pointer (some ⟨bi, 0, none⟩)]] w fun e w' => (∃ k : Nat, e = .returned (.int .i64 k) ∧ L[k]? = some q) ∧ Below w.heap.size w w' := by
  subst hn
  have eg : ∀ args w, (callFunc 42 args).run Try.prog w = .ok (.enter 42 args) w := enters_of Try.func42 (by kernel_rfl) rfl
  have hP := pred_any bl bi gl L.length c1 i q.1.number w hl hi hc hin hm
  obtain ⟨k, hk, hkq⟩ := idx_of hN hp hq
  have hcells : ∀ j, j < L.length → ∀ x v, (mcell L[j]!)[x]? = some v → w.cell? ⟨g, 0 + j * 5 + x, none⟩ = some v := fun j hj x v hv => by
    have hx : x < 5 := by
      rcases Nat.lt_or_ge x 5 with h | h
      · exact h
      · rw [List.getElem?_eq_none (by simp [mcell]; omega)] at hv; cases hv
    obtain ⟨b, o, e, hh⟩ := mails_cells hR j L[j]! (by rw [List.getElem?_eq_getElem hj, getElem!_pos L j hj])
    cases e
    have := hh x hx v hv
    rwa [Nat.zero_add] at this ⊢
  have := AnyQ.slices_IndexFunc (P := Try.prog) (ρ := Try.indexM_ren) Try.indexM 5 Try.isAgg71 Try.sizeOf71 mcell (fun _ => rfl) (fun x => decide (x.1.number = q.1.number)) 42 #[.pointer (some ⟨bl, 0, none⟩), .pointer (some ⟨bi, 0, none⟩)] eg g 0 L.length c L w hP (Nat.le_refl _) (by omega) hlg hcells
  rw [hk] at this
  exact Calls.mono this (fun e w' h => ⟨⟨k, h.1, hkq⟩, h.2⟩)
set_option maxHeartbeats 2000000 in
set_option maxRecDepth 100000 in
theorem place_any (B gr : Nat) (now put : Int) (v : Value) (L : List ME) (i : Nat) (w : World) (h : RoadAt B gr now put v L w) (hL : L.length < 99999) (hi : i < L.length) (hN : Nums L) :
    Calls Try.prog 29 #[.pointer (some ⟨gr, 0, none⟩), .int .i64 i] w (Placed L i w) := by
  obtain ⟨g, c, rfl⟩ := h.fly.form (by rintro rfl; simp at hi)
  have c2 : w.cell? ⟨gr, 2, none⟩ = some (.slice (some ⟨g, 0, none⟩) L.length c) := h.fly.blk.cell 2
  have lt := h.lt
  have hR : ReadC w (some ⟨g, 0, none⟩) (L.flatMap mcell) := OwnR.read h.fly.own
  have hlg := (OwnR.blocks h.fly.own g rfl).2
  have t0 : decide ((i : Int) < 0) = false := decide_eq_false (by omega)
  have t1 : ¬ (L.length : Int) ≤ (i : Int) := by omega
  have t2 : decide ((L.length : Int) ≤ (i : Int)) = false := decide_eq_false (by omega)
  have HR := Lib.hid hR
  have HN := Lib.hid hN
  clear h hR hN
  go_enter Try.func29, Try.ntmps29
  go_upto_region 1 with (fail)
  go_quiet (fail)
  go_wp2_with (first
    | (go_at_call 37; refine (clonem_any g L.length c L _ (HR.out.under (below_drewN (below_alloc (Below.refl _ _) _) _)) rfl (by omega) (by omega)).mono ?_; rintro e w1 ⟨gl, c1, rfl, ho1, hg1, hg1', hb1⟩; obtain ⟨hg2, hb2, x1, x2⟩ := place1 lt c2 hb1 hg1; have HO1 := Lib.hid ho1; clear ho1)
    | (go_at_call 38; refine (sortfunc_any _ gl _ c1 L _ (HO1.out.alloc _) rfl (by simp; omega) (by omega)).mono ?_; rintro e w2 ⟨rfl, D, hS⟩; obtain ⟨q, hq, hb3, y1, y2, y3, y4⟩ := place2 hi hS hg2 hg1' lt hb2 x1 x2; have HS := Lib.hid hS; have HQ := Lib.hid hq; clear hS hq)
    | (go_at_call 41; refine (index_any g _ c _ _ gl c1 i L D q _ (HR.out.under hb3) rfl (by have := hb3.size; omega) (by omega) HN.out HS.out.perm HQ.out y2 y3 y4 hi).mono ?_; rintro e w3 ⟨⟨k, rfl, hk⟩, hb4⟩; have HK := Lib.hid hk; clear hk))
  go_ret
  exact ⟨k, q, D, rfl, HS.out.perm, HS.out.sort, HQ.out, HK.out, hb3.trans (hb4.mono hb3.size)⟩
end Go.Proofs.Ytkodmoeohffjhaa
