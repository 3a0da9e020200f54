/- heap.down walked. -/
import Derived.Test.YtkodmoeohffjhaaRoUp
namespace Go.Proofs.Ytkodmoeohffjhaa
open Go.RowKit Go.Proofs.Ytkodmoeohffjhaa.Hp
set_option linter.unusedVariables false
set_option linter.unusedSimpArgs false

/-- Where down stands: i, the list, and that it is a heap but for i (and what is over i0, where nothing has moved). -/
structure DownR (m base gr g n c i0 : Nat) (x y : Value) (L : List ME) (w : World) (iv : Value) (wr : World) : Prop where
  out : ∃ (i : Nat) (L' : List ME), iv = .int .i64 i ∧ i0 ≤ i ∧ i < n ∧ L'.Perm L ∧ ButAt mlt L' m i ∧ ((i = i0 ∧ L' = L) ∨ (i0 < i ∧ DownAt mlt L' m i)) ∧ (∀ k, m ≤ k → L'[k]? = L[k]?) ∧ Fly wr base gr x y (.slice (some ⟨g, 0, none⟩) n c) L' ∧ w.grownBy wr (some g)
/-- What down leaves. -/
def DownEnd (m base gr g n c i0 : Nat) (x y : Value) (L : List ME) (w : World) (r : Bool) (w' : World) : Prop :=
  ∃ L' : List ME, L'.Perm L ∧ ((r = true ∧ Heap mlt L' m) ∨ (r = false ∧ L' = L ∧ UpAt mlt L' m i0)) ∧ (∀ k, m ≤ k → L'[k]? = L[k]?) ∧ Fly w' base gr x y (.slice (some ⟨g, 0, none⟩) n c) L' ∧ w.grownBy w' (some g)
theorem par_cases {k i : Nat} (h0 : 0 < k) (h : par k = i) : k = 2 * i + 1 ∨ k = 2 * i + 2 := by unfold par at h; omega
/-- The end of the loop: nothing under i is less. -/
theorem down_end {m base gr g n c i0 : Nat} {x y : Value} {L L' : List ME} {w wr : World} {i : Nat} (hi : i0 ≤ i) (hp : L'.Perm L) (hb : ButAt mlt L' m i) (hc : (i = i0 ∧ L' = L) ∨ (i0 < i ∧ DownAt mlt L' m i)) (hk : ∀ k, m ≤ k → L'[k]? = L[k]?)
    (hf : Fly wr base gr x y (.slice (some ⟨g, 0, none⟩) n c) L') (hg : w.grownBy wr (some g)) (hmin : ∀ k, 0 < k → k < m → par k = i → le mlt (at_ L' i) (at_ L' k)) : DownEnd m base gr g n c i0 x y L w (decide (i0 < i)) wr := by
  refine ⟨L', hp, ?_, hk, hf, hg⟩
  rcases hc with ⟨e1, e2⟩ | ⟨e1, e2⟩
  · refine .inr ⟨decide_eq_false (by omega), e2, ?_⟩
    have := but_up hb hmin
    rwa [e1] at this
  · exact .inl ⟨decide_eq_true (by omega), down_done e2 hmin⟩
theorem DownEnd.under {m base gr g n c i0 : Nat} {x y : Value} {L : List ME} {w wr w1 : World} {r : Bool} (h : DownEnd m base gr g n c i0 x y L w r wr) (hb : Below wr.heap.size wr w1) : DownEnd m base gr g n c i0 x y L w r w1 := by
  obtain ⟨L', h1, h2, h3, h4, h5⟩ := h
  exact ⟨L', h1, h2, h3, h4.under hb, only_trans h5 (only_of_below hb none) (fun _ e => by cases e)⟩
/-- One step down. -/
theorem down_next {m base gr g n c i0 : Nat} {x y : Value} {L L' : List ME} {w wr w1 w2 : World} {i j : Nat} {p q : ME} (hi : i0 ≤ i) (hmn : m ≤ n) (hn : L'.length = n) (hp : L'.Perm L) (hb : ButAt mlt L' m i) (hk : ∀ k, m ≤ k → L'[k]? = L[k]?)
    (hf : Fly wr base gr x y (.slice (some ⟨g, 0, none⟩) n c) L') (hg : w.grownBy wr (some g)) (hj : par j = i) (hj0 : 0 < j) (hjm : j < m) (hpi : L'[i]? = some p) (hqj : L'[j]? = some q) (hr : aheadB q.1 p.1 = true) (hmin : ∀ k, 0 < k → k < m → par k = i → le mlt (at_ L' j) (at_ L' k))
    (hb1 : Below wr.heap.size wr w1) (ho2 : OwnR w2 base 71 5 (.slice (some ⟨g, 0, none⟩) n c) n (((L'.set i q).set j p).flatMap mcell)) (hb2 : w1.grownBy w2 (some g)) : DownR m base gr g n c i0 x y L w (.int .i64 j) w2 := by
  have hij : i < j := by unfold par at hj; omega
  have hS : swapL L' i j = (L'.set i q).set j p := by unfold swapL; rw [hpi, hqj]; rfl
  have hU := down_step ordr_mlt hb hj0 hjm hj (by omega) (by simp only [at_, hpi, hqj]; exact hr) hmin
  have hPm := swap_perm L' i j (by omega) (by omega)
  rw [hS] at hU hPm
  refine ⟨⟨j, _, rfl, by omega, by omega, hPm.trans hp, hU.but, .inr ⟨by omega, hU⟩, fun k h => ?_, ⟨(hf.blk.under hb1).grown hb2 (fun e => hf.off e.symm), ?_, hf.off⟩, only_trans (only_trans hg (only_of_below hb1 none) (fun _ e => by cases e)) hb2 (fun g' e => .inl e)⟩⟩
  · rw [List.getElem?_set_ne (by omega), List.getElem?_set_ne (by omega)]
    exact hk k h
  · have : ((L'.set i q).set j p).length = n := by simp [hn]
    rw [this]; exact ho2
end Go.Proofs.Ytkodmoeohffjhaa
