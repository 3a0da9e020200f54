/- Mails that came in: a slice of them. -/
import Derived.Test.YtkodmoeohffjhaaRoOpen
import Derived.Test.YtkodmoeohffjhaaRoAllI
namespace Go.Proofs.Ytkodmoeohffjhaa
open Go.ChangeShapes Go.WideShapes Go.ChangeAt Go.RowKit Go.Deep Go.Joins
set_option linter.unusedVariables false
set_option linter.unusedSimpArgs false

section
variable {H : Type} {enc : TypeId × Value → H} {P : Program} {w : World} {base : Nat} {spare : Nat → Bool} {held : Bool}
theorem open_slice_fields {t e : TypeId} {fs : Array Field} {fuel : Nat} {cs : List Value} {x : DataW H × List MemPlace} (ht : P.underlying t = some (.slice e)) (he : P.underlying e = some (.struct fs))
    (hone : oneCellFields P fs = true) (hC : P.cellsOf e = fs.size) (h : DataW.trod enc P w base spare held fuel t cs = some x) :
    (cs = [.slice none 0 0] ∧ x = (.nil, [])) ∨
    ∃ (a : Addr) (len cap m : Nat) (D : Nat → DataW H) (Pl : Nat → List MemPlace), cs = [.slice (some a) len cap] ∧ base ≤ a.block ∧ len ≤ cap ∧ cap ≤ maxLen ∧ m = (if spare a.block then cap else len) ∧
      x = (.slice ((List.range len).map D) ((List.range (m - len)).map fun j => D (len + j)), MemPlace.row a (m * fs.size) ++ (List.range m).flatMap Pl) ∧
      ∀ i, i < m → ∃ (ys : List (DataW H × List MemPlace)) (n : Nat), D i = .agg (ys.map (·.1)) ∧ Pl i = ys.flatMap (·.2) ∧ ys.length = fs.size ∧
        ∀ (j : Nat) (f : Field), fs[j]? = some f → ∃ (v : Value) (y : DataW H × List MemPlace), w.cell? (a.add (i * fs.size + j)) = some v ∧ ys[j]? = some y ∧ DataW.trod enc P w base spare held n f.type [v] = some y := by
  rcases open_slice ht h with h0 | ⟨a, len, cap, m, n, D, Pl, hcs, hb, hl, hm, hmm, hx, hi⟩
  · exact .inl h0
  · refine .inr ⟨a, len, cap, m, D, Pl, hcs, hb, hl, hm, hmm, by rw [hC] at hx; exact hx, fun i him => ?_⟩
    obtain ⟨cs', hc, ht'⟩ := hi i him
    rw [hC] at hc
    obtain ⟨ys, n', hn', hy, hlen, hyl, hf⟩ := DataW.trod_struct he ht'
    obtain ⟨_, hcl, hat⟩ := World.cells?_some hc
    simp only [Prod.mk.injEq] at hy
    refine ⟨ys, n', hy.1, hy.2, hyl, fun j f hj => ?_⟩
    obtain ⟨ho, hk⟩ := hone_of hone j f hj
    have hjl : j < fs.size := (Array.getElem?_eq_some_iff.1 hj).1
    have hcell := hat j hjl
    have hv : cs'[j]? = some (cs'[j]'(by omega)) := List.getElem?_eq_getElem (by omega)
    have h1 := hf j f hj
    rw [ho, hk] at h1
    have hone' : (cs'.drop j).take 1 = [cs'[j]'(by omega)] := by
      rw [List.drop_eq_getElem_cons (by omega)]
      rfl
    rw [hone'] at h1
    have hys : ys[j]? = some (ys[j]'(by omega)) := List.getElem?_eq_getElem (by omega)
    refine ⟨_, _, ?_, hys, h1.trans hys⟩
    rw [← Go.Deep.add_add, hcell, hv]
end
set_option maxRecDepth 100000 in
/-- A slice of mails that came in. -/
theorem mails_open {H : Type} {enc : TypeId × Value → H} {W : World} {v : Value} {d : DataW H} {p : List MemPlace} {base0 : Nat} (hv : Value.okWide Try.prog W .any base0 22 v) (h : DataW.Trod enc Try.prog W 0 (fun _ => true) true 22 v d p) :
    ∃ A n c L, v = .slice A n c ∧ n = L.length ∧ n ≤ 9223372036854775807 ∧ MailsR W A L := by
  obtain ⟨fuel, hf⟩ := h
  obtain ⟨a0, len0, cap0, rfl⟩ := okWide_slice Try.underlying22 hv
  rcases open_slice_fields Try.underlying22 Try.underlying35 (by kernel_rfl) (by kernel_rfl) hf with ⟨hcs, _⟩ | ⟨a, len, cap, m, D, Pl, hcs, _, hl, hm, hmm, _, hi⟩
  · simp [Value.cells] at hcs
    obtain ⟨rfl, rfl, rfl⟩ := hcs
    exact ⟨none, 0, 0, [], rfl, rfl, by omega, ⟨ReadC.nil _ _, fun _ h => by cases h⟩⟩
  · simp [Value.cells] at hcs
    obtain ⟨rfl, rfl, rfl⟩ := hcs
    have hml : len0 ≤ m := by rw [hmm]; simp; exact hl
    have each : ∀ i, i < len0 → ∃ q : MI, (∀ j, j < 3 → W.cell? (a.add (i * 3 + j)) = (icell q)[j]?) ∧ (ReadI W .u8 q.2.2.2.1 q.2.2.1 ∧ q.2.2.1.length ≤ 9223372036854775807) := by
      intro i hil
      obtain ⟨ys, n, _, _, _, hf⟩ := hi i (by omega)
      obtain ⟨v0, y0, c0, _, t0⟩ := hf 0 _ rfl
      obtain ⟨v1, y1, c1, _, t1⟩ := hf 1 _ rfl
      obtain ⟨v2, y2, c2, _, t2⟩ := hf 2 _ rfl
      obtain ⟨x0, rfl, w0⟩ := int_cell Try.underlying3 t0
      obtain ⟨x1, rfl, w1⟩ := int_cell Try.underlying3 t1
      obtain ⟨bs, B, c, rfl, hr, hbl, _⟩ := bytes_open t2
      refine ⟨(x0, x1, bs, B, c), fun j hj => ?_, hr, hbl⟩
      match j, hj with
      | 0, _ => exact c0
      | 1, _ => exact c1
      | 2, _ => exact c2
    -- the list of them
    have list : ∀ n, n ≤ len0 → ∃ L : List MI, L.length = n ∧ (∀ i (h : i < L.length), ∀ j, j < 3 → W.cell? (a.add (i * 3 + j)) = (icell L[i])[j]?) ∧ ∀ q ∈ L, (ReadI W .u8 q.2.2.2.1 q.2.2.1 ∧ q.2.2.1.length ≤ 9223372036854775807) := by
      intro n
      induction n with
      | zero => exact fun _ => ⟨[], rfl, (fun i h => by simp at h), fun _ h => by cases h⟩
      | succ n ih =>
        intro hn
        obtain ⟨L, hl, hc, hp⟩ := ih (by omega)
        obtain ⟨q, hq, hqp⟩ := each n (by omega)
        refine ⟨L ++ [q], by simp [hl], fun i h j hj => ?_, fun p hp' => ?_⟩
        · rcases Nat.lt_or_ge i L.length with h1 | h1
          · rw [hc i h1 j hj, List.getElem_append_left h1]
          · have : i = n := by simp at h; omega
            subst this
            rw [hq j hj]
            simp [List.getElem_append_right h1, hl]
        · rcases List.mem_append.1 hp' with h | h
          · exact hp p h
          · rw [List.mem_singleton.1 h]; exact hqp
    obtain ⟨L, hL, hc, hp⟩ := list len0 (Nat.le_refl _)
    simp only [maxLen] at hm
    refine ⟨some a, len0, cap0, L, rfl, hL.symm, by omega, ⟨fun hne => ?_, hp⟩⟩
    · have h0 : 0 < L.length := by
        rcases Nat.eq_zero_or_pos L.length with h | h
        · rw [List.eq_nil_of_length_eq_zero h] at hne; exact absurd rfl hne
        · exact h
      obtain ⟨b, off, spot⟩ := a
      have hc0 := hc 0 h0 0 (by omega)
      have hspot : spot = none := by simpa [Addr.add] using World.cell?_spot (hc0.trans (show (icell L[0])[0]? = some _ from rfl))
      subst hspot
      refine ⟨b, off, rfl, fun j u hu => ?_⟩
      have hj : j < L.length * 3 := by
        have := (List.getElem?_eq_some_iff.1 hu).1
        rwa [icell_len] at this
      have hk : j / 3 < L.length := by omega
      have h1 := hc (j / 3) hk (j % 3) (by omega)
      have h2 := icell_at L (j / 3) L[j / 3] (List.getElem?_eq_getElem hk) (j % 3) (by omega)
      rw [show j / 3 * 3 + j % 3 = j by omega] at h1 h2
      rw [← h2, hu] at h1
      have e : (⟨b, off, none⟩ : Addr).add j = ⟨b, off + j, none⟩ := by unfold Addr.add; split <;> simp_all
      rw [e] at h1
      exact h1
end Go.Proofs.Ytkodmoeohffjhaa
