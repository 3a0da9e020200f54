/- A slice of acts that came in. -/
import Derived.Test.YtijjnpegokfidaaDoorPaOpen
import Derived.Test.YtijjnpegokfidaaDoorPaBack
namespace Go.Proofs.YtijjnpegokfidaaDoor
open Go.ChangeShapes Go.WideShapes Go.ChangeAt Go.RowKit Go.Deep Go.Joins
open Pa
set_option linter.unusedVariables false
set_option linter.unusedSimpArgs false

/-- A slice of acts. -/
theorem acts_open {H : Type} {enc : TypeId × Value → H} {W : World} {v : Value} {d : DataW H} {p : List MemPlace} {base0 : Nat} (hv : Value.okWide Tryd.prog W .any base0 35 v) (h : DataW.Trod enc Tryd.prog W 0 (fun _ => true) true 35 v d p) :
    ∃ A n c L, v = .slice A n c ∧ n = L.length ∧ n ≤ maxLen ∧ CameL W A L := by
  obtain ⟨fuel, hf⟩ := h
  obtain ⟨a0, len0, cap0, rfl⟩ := okWide_slice Tryd.underlying35 hv
  rcases open_slice_fields Tryd.underlying35 Tryd.underlying25 (by kernel_rfl) (by kernel_rfl) hf with ⟨hcs, _⟩ | ⟨a, len, cap, m, D, Pl, hcs, _, hl, hm, hmm, _, hi⟩
  · simp [Value.cells] at hcs
    obtain ⟨rfl, rfl, rfl⟩ := hcs
    exact ⟨none, 0, 0, [], rfl, rfl, by simp, ⟨⟨ReadC.nil _ _, (fun _ h => by cases h), (fun _ h => by cases h)⟩, (fun _ h => by cases h), (fun _ h => by cases h)⟩⟩
  · simp [Value.cells] at hcs
    obtain ⟨rfl, rfl, rfl⟩ := hcs
    have hml : len0 ≤ m := by rw [hmm]; simp; exact hl
    have each : ∀ i, i < len0 → ∃ q : AE, (∀ j, j < 6 → W.cell? (a.add (i * 6 + j)) = (acell q)[j]?) ∧ (∃ P X pc xc, q.2.1 = .slice P q.1.params.length pc ∧ q.2.2 = .slice X q.1.text.length xc ∧ Came W q.1 P X) ∧ q.1.params.length ≤ maxLen ∧ q.1.text.length ≤ maxLen := by
      intro i hil
      obtain ⟨ys, n, _, _, _, hf⟩ := hi i (by omega)
      obtain ⟨v0, y0, c0, _, t0⟩ := hf 0 _ rfl
      obtain ⟨v1, y1, c1, _, t1⟩ := hf 1 _ rfl
      obtain ⟨v2, y2, c2, _, t2⟩ := hf 2 _ rfl
      obtain ⟨v3, y3, c3, _, t3⟩ := hf 3 _ rfl
      obtain ⟨v4, y4, c4, _, t4⟩ := hf 4 _ rfl
      obtain ⟨v5, y5, c5, _, t5⟩ := hf 5 _ rfl
      obtain ⟨x0, rfl, w0⟩ := int_cell Tryd.underlying3 t0
      obtain ⟨x1, rfl, w1⟩ := int_cell Tryd.underlying21 t1
      obtain ⟨x2, rfl, w2⟩ := int_cell Tryd.underlying5 t2
      obtain ⟨x3, rfl, w3⟩ := int_cell Tryd.underlying5 t3
      obtain ⟨ps, P, pc, rfl, hp, hpw, hpl⟩ := row_open Tryd.underlying22 Tryd.underlying3 (by kernel_rfl) t4
      obtain ⟨bs, X, xc, rfl, hx, hxw, hxl⟩ := row_open Tryd.underlying23 Tryd.underlying5 (by kernel_rfl) t5
      refine ⟨(⟨x0, x1, x2, x3, ps, bs⟩, .slice P ps.length pc, .slice X bs.length xc), fun j hj => ?_, ⟨P, X, pc, xc, rfl, rfl, ⟨i32_of_wf w1, u8_of_wf w2, u8_of_wf w3, fun n hn => i64_of_wf (hpw n hn), fun n hn => u8_of_wf (hxw n hn), hp, hx⟩⟩, hpl, hxl⟩
      match j, hj with
      | 0, _ => exact c0
      | 1, _ => exact c1
      | 2, _ => exact c2
      | 3, _ => exact c3
      | 4, _ => exact c4
      | 5, _ => exact c5
    have list : ∀ n, n ≤ len0 → ∃ L : List AE, L.length = n ∧ (∀ i (h : i < L.length), ∀ j, j < 6 → W.cell? (a.add (i * 6 + j)) = (acell L[i])[j]?) ∧ ∀ q ∈ L, (∃ P X pc xc, q.2.1 = .slice P q.1.params.length pc ∧ q.2.2 = .slice X q.1.text.length xc ∧ Came W q.1 P X) ∧ q.1.params.length ≤ maxLen ∧ q.1.text.length ≤ maxLen := by
      intro n
      induction n with
      | zero => exact fun _ => ⟨[], rfl, (fun i h => by simp at h), fun _ h => by cases h⟩
      | succ n ih =>
        intro hn
        obtain ⟨L, hl, hc, hp⟩ := ih (by omega)
        obtain ⟨q, hq, hqp⟩ := each n (by omega)
        refine ⟨L ++ [q], by simp [hl], fun i h j hj => ?_, fun p hp' => ?_⟩
        · rcases Nat.lt_or_ge i L.length with h1 | h1
          · rw [hc i h1 j hj, List.getElem_append_left h1]
          · have : i = n := by simp at h; omega
            subst this
            rw [hq j hj]
            simp [List.getElem_append_right h1, hl]
        · rcases List.mem_append.1 hp' with h | h
          · exact hp p h
          · rw [List.mem_singleton.1 h]; exact hqp
    obtain ⟨L, hL, hc, hp⟩ := list len0 (Nat.le_refl _)
    refine ⟨some a, len0, cap0, L, rfl, hL.symm, by omega, ⟨⟨fun hne => ?_, fun q hq => ?_, fun q hq => ?_⟩, fun q hq => (hp q hq).1, fun q hq => by
      obtain ⟨_, h1, h2⟩ := hp q hq
      simp only [maxLen] at h1 h2
      omega⟩⟩
    · have h0 : 0 < L.length := by
        rcases Nat.eq_zero_or_pos L.length with h | h
        · rw [List.eq_nil_of_length_eq_zero h] at hne; exact absurd rfl hne
        · exact h
      obtain ⟨b, off, spot⟩ := a
      have hc0 := hc 0 h0 0 (by omega)
      have hspot : spot = none := by simpa [Addr.add] using World.cell?_spot (hc0.trans (show (acell L[0])[0]? = some _ from rfl))
      subst hspot
      refine ⟨b, off, rfl, fun j u hu => ?_⟩
      have hj : j < L.length * 6 := by
        have := (List.getElem?_eq_some_iff.1 hu).1
        rwa [acell_len] at this
      have hk : j / 6 < L.length := by omega
      have h1 := hc (j / 6) hk (j % 6) (by omega)
      have h2 := acell_at L (j / 6) L[j / 6] (List.getElem?_eq_getElem hk) (j % 6) (by omega)
      rw [show j / 6 * 6 + j % 6 = j by omega] at h1 h2
      rw [← h2, hu] at h1
      have e : (⟨b, off, none⟩ : Addr).add j = ⟨b, off + j, none⟩ := by unfold Addr.add; split <;> simp_all
      rw [e] at h1
      exact h1
    · obtain ⟨⟨P, X, pc, xc, e1, e2, h⟩, _⟩ := hp q hq
      exact ⟨P, pc, e1, h.par⟩
    · obtain ⟨⟨P, X, pc, xc, e1, e2, h⟩, _⟩ := hp q hq
      exact ⟨X, xc, e2, h.txt⟩
end Go.Proofs.YtijjnpegokfidaaDoor
