/- Parts that came in: a slice of them, one by value. No statement of the seat stands here. -/
import Derived.Test.YtpoobdccmaiaiaaFrTied
import Derived.Test.YtpoobdccmaiaiaaFrLawM
import Derived.Test.YtpoobdccmaiaiaaSpan
import Derived.Deep.Slices
import Derived.Deep.Fields
import Derived.ChangeSame
import Derived.Lib.SmallJoins
namespace Go.Proofs.Ytpoobdccmaiaiaa
open Go.ChangeShapes Go.WideShapes Go.ChangeAt Go.RowKit Go.Deep Go.Joins
open Frag
set_option linter.unusedVariables false
set_option linter.unusedSimpArgs false

section
variable {H : Type} {enc : TypeId × Value → H} {P : Program} {w : World} {base : Nat} {spare : Nat → Bool} {held : Bool}
theorem open_slice_fields {t e : TypeId} {fs : Array Field} {fuel : Nat} {cs : List Value} {x : DataW H × List MemPlace} (ht : P.underlying t = some (.slice e)) (he : P.underlying e = some (.struct fs))
    (hone : oneCellFields P fs = true) (hC : P.cellsOf e = fs.size) (h : DataW.trod enc P w base spare held fuel t cs = some x) :
    (cs = [.slice none 0 0] ∧ x = (.nil, [])) ∨
    ∃ (a : Addr) (len cap m : Nat) (D : Nat → DataW H) (Pl : Nat → List MemPlace), cs = [.slice (some a) len cap] ∧ base ≤ a.block ∧ len ≤ cap ∧ cap ≤ maxLen ∧ m = (if spare a.block then cap else len) ∧
      x = (.slice ((List.range len).map D) ((List.range (m - len)).map fun j => D (len + j)), MemPlace.row a (m * fs.size) ++ (List.range m).flatMap Pl) ∧
      ∀ i, i < m → ∃ (ys : List (DataW H × List MemPlace)) (n : Nat), D i = .agg (ys.map (·.1)) ∧ Pl i = ys.flatMap (·.2) ∧ ys.length = fs.size ∧
        ∀ (j : Nat) (f : Field), fs[j]? = some f → ∃ (v : Value) (y : DataW H × List MemPlace), w.cell? (a.add (i * fs.size + j)) = some v ∧ ys[j]? = some y ∧ DataW.trod enc P w base spare held n f.type [v] = some y := by
  rcases open_slice ht h with h0 | ⟨a, len, cap, m, n, D, Pl, hcs, hb, hl, hm, hmm, hx, hi⟩
  · exact .inl h0
  · refine .inr ⟨a, len, cap, m, D, Pl, hcs, hb, hl, hm, hmm, by rw [hC] at hx; exact hx, fun i him => ?_⟩
    obtain ⟨cs', hc, ht'⟩ := hi i him
    rw [hC] at hc
    obtain ⟨ys, n', hn', hy, hlen, hyl, hf⟩ := DataW.trod_struct he ht'
    obtain ⟨_, hcl, hat⟩ := World.cells?_some hc
    simp only [Prod.mk.injEq] at hy
    refine ⟨ys, n', hy.1, hy.2, hyl, fun j f hj => ?_⟩
    obtain ⟨ho, hk⟩ := hone_of hone j f hj
    have hjl : j < fs.size := (Array.getElem?_eq_some_iff.1 hj).1
    have hcell := hat j hjl
    have hv : cs'[j]? = some (cs'[j]'(by omega)) := List.getElem?_eq_getElem (by omega)
    have h1 := hf j f hj
    rw [ho, hk] at h1
    have hone' : (cs'.drop j).take 1 = [cs'[j]'(by omega)] := by
      rw [List.drop_eq_getElem_cons (by omega)]
      rfl
    rw [hone'] at h1
    have hys : ys[j]? = some (ys[j]'(by omega)) := List.getElem?_eq_getElem (by omega)
    refine ⟨_, _, ?_, hys, h1.trans hys⟩
    rw [← Go.Deep.add_add, hcell, hv]
/-- An integer's cell. -/
theorem int_cell {t : TypeId} {k : IntKind} {n : Nat} {v : Value} {y : DataW H × List MemPlace} (ht : P.underlying t = some (.int k)) (h : DataW.trod enc P w base spare held n t [v] = some y) : ∃ a, v = .int k a ∧ (Lit.int k a).wf = true := by
  obtain ⟨a, e, _, hw⟩ := DataW.trod_int ht h
  simp at e
  exact ⟨a, e, hw⟩
end

/-- A part as it came in. -/
structure PartIn (W : World) (p : PV) (v : Value) : Prop where
  bytes : ∃ B c, v = .slice B p.bs.length c ∧ ReadI W .u8 B p.bs ∧ p.bs.length ≤ 9223372036854775807
  id : 0 ≤ p.id ∧ p.id < 4294967296
  ix : -9223372036854775808 ≤ p.ix ∧ p.ix ≤ 9223372036854775807
  ct : -9223372036854775808 ≤ p.ct ∧ p.ct ≤ 9223372036854775807
theorem bytes_open {H : Type} {enc : TypeId × Value → H} {W : World} {n : Nat} {v : Value} {y : DataW H × List MemPlace} (h : DataW.trod enc Try.prog W 0 (fun _ => true) true n 23 [v] = some y) :
    ∃ bs B c, v = .slice B (List.length bs) c ∧ ReadI W .u8 B bs ∧ bs.length ≤ 9223372036854775807 := by
  obtain ⟨a, len, cap, zs, e, hr⟩ := ints_open Try.underlying23 Try.underlying5 (by kernel_rfl) h
  simp at e
  have h1 := hr.leneq
  have h2 := hr.le
  have h3 := hr.capmax
  simp only [maxLen] at h3
  exact ⟨zs, a, cap, by rw [e, h1], hr.read, by omega⟩
/-- A slice of parts that came in. -/
theorem parts_open {H : Type} {enc : TypeId × Value → H} {W : World} {v : Value} {d : DataW H} {p : List MemPlace} {base0 : Nat} (hv : Value.okWide Try.prog W .any base0 26 v) (h : DataW.Trod enc Try.prog W 0 (fun _ => true) true 26 v d p) :
    ∃ A n c L, v = .slice A n c ∧ n = L.length ∧ n ≤ 9223372036854775807 ∧ PartsR W A L ∧ ∀ q ∈ L, PartIn W q.1 q.2 := by
  obtain ⟨fuel, hf⟩ := h
  obtain ⟨a0, len0, cap0, rfl⟩ := okWide_slice Try.underlying26 hv
  rcases open_slice_fields Try.underlying26 Try.underlying34 (by kernel_rfl) (by kernel_rfl) hf with ⟨hcs, _⟩ | ⟨a, len, cap, m, D, Pl, hcs, _, hl, hm, hmm, _, hi⟩
  · simp [Value.cells] at hcs
    obtain ⟨rfl, rfl, rfl⟩ := hcs
    exact ⟨none, 0, 0, [], rfl, rfl, by omega, PartsR.nil _ _, fun _ h => by cases h⟩
  · simp [Value.cells] at hcs
    obtain ⟨rfl, rfl, rfl⟩ := hcs
    have hml : len0 ≤ m := by rw [hmm]; simp; exact hl
    have each : ∀ i, i < len0 → ∃ q : PV × Value, (∀ j, j < 4 → W.cell? (a.add (i * 4 + j)) = (cells q)[j]?) ∧ PartIn W q.1 q.2 := by
      intro i hil
      obtain ⟨ys, n, _, _, _, hf⟩ := hi i (by omega)
      obtain ⟨v0, y0, c0, _, t0⟩ := hf 0 _ rfl
      obtain ⟨v1, y1, c1, _, t1⟩ := hf 1 _ rfl
      obtain ⟨v2, y2, c2, _, t2⟩ := hf 2 _ rfl
      obtain ⟨v3, y3, c3, _, t3⟩ := hf 3 _ rfl
      obtain ⟨x0, rfl, w0⟩ := int_cell Try.underlying22 t0
      obtain ⟨x1, rfl, w1⟩ := int_cell Try.underlying3 t1
      obtain ⟨x2, rfl, w2⟩ := int_cell Try.underlying3 t2
      obtain ⟨bs, B, c, rfl, hr, hbl⟩ := bytes_open t3
      refine ⟨(⟨x0, x1, x2, bs⟩, .slice B bs.length c), fun j hj => ?_, ⟨⟨B, c, rfl, hr, hbl⟩, u32_of_wf w0, i64_of_wf w1, i64_of_wf w2⟩⟩
      match j, hj with
      | 0, _ => exact c0
      | 1, _ => exact c1
      | 2, _ => exact c2
      | 3, _ => exact c3
    -- the list of them
    have list : ∀ n, n ≤ len0 → ∃ L : List (PV × Value), L.length = n ∧ (∀ i (h : i < L.length), ∀ j, j < 4 → W.cell? (a.add (i * 4 + j)) = (cells L[i])[j]?) ∧ ∀ q ∈ L, PartIn W q.1 q.2 := by
      intro n
      induction n with
      | zero => exact fun _ => ⟨[], rfl, (fun i h => by simp at h), fun _ h => by cases h⟩
      | succ n ih =>
        intro hn
        obtain ⟨L, hl, hc, hp⟩ := ih (by omega)
        obtain ⟨q, hq, hqp⟩ := each n (by omega)
        refine ⟨L ++ [q], by simp [hl], fun i h j hj => ?_, fun p hp' => ?_⟩
        · rcases Nat.lt_or_ge i L.length with h1 | h1
          · rw [hc i h1 j hj, List.getElem_append_left h1]
          · have : i = n := by simp at h; omega
            subst this
            rw [hq j hj]
            simp [List.getElem_append_right h1, hl]
        · rcases List.mem_append.1 hp' with h | h
          · exact hp p h
          · rw [List.mem_singleton.1 h]; exact hqp
    obtain ⟨L, hL, hc, hp⟩ := list len0 (Nat.le_refl _)
    simp only [maxLen] at hm
    refine ⟨some a, len0, cap0, L, rfl, hL.symm, by omega, ⟨fun hne => ?_, fun q hq => ?_⟩, hp⟩
    · have h0 : 0 < L.length := by
        rcases Nat.eq_zero_or_pos L.length with h | h
        · rw [List.eq_nil_of_length_eq_zero h] at hne; exact absurd rfl hne
        · exact h
      obtain ⟨b, off, spot⟩ := a
      have hc0 := hc 0 h0 0 (by omega)
      have hspot : spot = none := by simpa [Addr.add] using World.cell?_spot (hc0.trans (show (cells L[0])[0]? = some _ from rfl))
      subst hspot
      refine ⟨b, off, rfl, fun j u hu => ?_⟩
      have hj : j < L.length * 4 := by
        have := (List.getElem?_eq_some_iff.1 hu).1
        rwa [cells_len] at this
      have hk : j / 4 < L.length := by omega
      have h1 := hc (j / 4) hk (j % 4) (by omega)
      have h2 := cells_at L (j / 4) L[j / 4] (List.getElem?_eq_getElem hk) (j % 4) (by omega)
      rw [show j / 4 * 4 + j % 4 = j by omega] at h1 h2
      rw [← h2, hu] at h1
      have e : (⟨b, off, none⟩ : Addr).add j = ⟨b, off + j, none⟩ := by unfold Addr.add; split <;> simp_all
      rw [e] at h1
      exact h1
    · obtain ⟨B, c, e, hr, _⟩ := (hp q hq).bytes
      exact ⟨B, c, e, hr⟩
/-- A part by value. -/
theorem part_open {H : Type} {enc : TypeId × Value → H} {W : World} {v : Value} {d : DataW H} {p : List MemPlace} {base0 : Nat} (hv : Value.okWide Try.prog W .any base0 34 v) (h : DataW.Trod enc Try.prog W 0 (fun _ => true) true 34 v d p) :
    ∃ q B c, v = partV q B q.bs.length c ∧ PartIn W q (.slice B q.bs.length c) := by
  obtain ⟨v0, v1, v2, v3, y0, y1, y2, y3, n, rfl, _, _, t0, t1, t2, t3⟩ := open_agg4 Try.underlying34 (by kernel_rfl) (by kernel_rfl) hv h
  obtain ⟨x0, rfl, w0⟩ := int_cell Try.underlying22 t0
  obtain ⟨x1, rfl, w1⟩ := int_cell Try.underlying3 t1
  obtain ⟨x2, rfl, w2⟩ := int_cell Try.underlying3 t2
  obtain ⟨bs, B, c, rfl, hr, hbl⟩ := bytes_open t3
  exact ⟨⟨x0, x1, x2, bs⟩, B, c, rfl, ⟨B, c, rfl, hr, hbl⟩, u32_of_wf w0, i64_of_wf w1, i64_of_wf w2⟩
end Go.Proofs.Ytpoobdccmaiaiaa
