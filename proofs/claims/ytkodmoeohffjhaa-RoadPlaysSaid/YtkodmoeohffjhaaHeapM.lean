/- The plain law of a heap in a list: up, down, and what they keep. No program in sight. -/
import Derived.Test.YtkodmoeohffjhaaRows
namespace Go.Proofs.Ytkodmoeohffjhaa.Hp
set_option linter.unusedVariables false

section
variable {α : Type} [Inhabited α]
def swapL (l : List α) (i j : Nat) : List α := (l.set i (l[j]?.getD default)).set j (l[i]?.getD default)
def at_ (l : List α) (i : Nat) : α := l[i]?.getD default
theorem swap_len (l : List α) (i j : Nat) : (swapL l i j).length = l.length := by simp [swapL]
theorem swap_at (l : List α) (i j k : Nat) (hi : i < l.length) (hj : j < l.length) : at_ (swapL l i j) k = if k = j then at_ l i else if k = i then at_ l j else at_ l k := by
  unfold at_ swapL
  by_cases h1 : k = j
  · subst h1
    rw [if_pos rfl, List.getElem?_set_self (by simpa using hj)]
    rfl
  · rw [if_neg h1, List.getElem?_set_ne (by omega)]
    by_cases h2 : k = i
    · subst h2
      rw [if_pos rfl, List.getElem?_set_self hi]
      rfl
    · rw [if_neg h2, List.getElem?_set_ne (by omega)]
theorem at_get (l : List α) (i : Nat) (h : i < l.length) : at_ l i = l[i] := by simp [at_, h]
theorem swap_perm (l : List α) (i j : Nat) (hi : i < l.length) (hj : j < l.length) : (swapL l i j).Perm l := by
  unfold swapL
  rw [List.getElem?_eq_getElem hi, List.getElem?_eq_getElem hj]
  exact List.set_set_perm hi hj
end

/-- An order: 'not less' goes along, and what is less is not greater. -/
structure Ordr {α : Type} (lt : α → α → Bool) : Prop where
  asym : ∀ a b, lt a b = true → lt b a = false
  le_trans : ∀ a b c, lt b a = false → lt c b = false → lt c a = false
section
variable {α : Type} [Inhabited α] (lt : α → α → Bool)
def le (a b : α) : Prop := lt b a = false
def par (k : Nat) : Nat := (k - 1) / 2
/-- The first n of l are a heap. -/
def Heap (l : List α) (n : Nat) : Prop := ∀ k, 0 < k → k < n → le lt (at_ l (par k)) (at_ l k)
/-- A heap but for i and its parent; what stands under i is no less than i's parent. -/
structure UpAt (l : List α) (n i : Nat) : Prop where
  rest : ∀ k, 0 < k → k < n → k ≠ i → le lt (at_ l (par k)) (at_ l k)
  grand : 0 < i → ∀ k, 0 < k → k < n → par k = i → le lt (at_ l (par i)) (at_ l k)
/-- A heap but for i and what stands under it. -/
structure DownAt (l : List α) (n i : Nat) : Prop where
  rest : ∀ k, 0 < k → k < n → par k ≠ i → le lt (at_ l (par k)) (at_ l k)
  grand : 0 < i → ∀ k, 0 < k → k < n → par k = i → le lt (at_ l (par i)) (at_ l k)
/-- A heap but for i, its parent, and what stands under it. -/
structure ButAt (l : List α) (n i : Nat) : Prop where
  rest : ∀ k, 0 < k → k < n → k ≠ i → par k ≠ i → le lt (at_ l (par k)) (at_ l k)
  grand : 0 < i → ∀ k, 0 < k → k < n → par k = i → le lt (at_ l (par i)) (at_ l k)
variable {lt}
theorem DownAt.but {l : List α} {n i : Nat} (h : DownAt lt l n i) : ButAt lt l n i := ⟨fun k h0 h1 _ h3 => h.rest k h0 h1 h3, h.grand⟩
theorem Heap.up {l : List α} {n i : Nat} (o : Ordr lt) (h : Heap lt l n) (hi : i < n) : UpAt lt l n i :=
  ⟨fun k h0 h1 _ => h k h0 h1, fun h0 k h1 h2 h3 => by
    have a := h i h0 hi
    have b := h k h1 h2
    rw [h3] at b
    exact o.le_trans _ _ _ a b⟩
theorem up_done {l : List α} {n i : Nat} (h : UpAt lt l n i) (hd : i = 0 ∨ le lt (at_ l (par i)) (at_ l i)) : Heap lt l n := fun k h0 h1 => by
  by_cases hk : k = i
  · rcases hd with hd | hd
    · omega
    · rw [hk]; exact hd
  · exact h.rest k h0 h1 hk
theorem up_step {l : List α} {n i : Nat} (o : Ordr lt) (h : UpAt lt l n i) (hi : i < n) (hn : n ≤ l.length) (h0 : 0 < i) (hl : lt (at_ l i) (at_ l (par i)) = true) : UpAt lt (swapL l (par i) i) n (par i) := by
  have hp : par i < i := by unfold par; omega
  have sw := fun k => swap_at l (par i) i k (by omega) (by omega)
  refine ⟨fun k k0 k1 k2 => ?_, fun p0 k k0 k1 k2 => ?_⟩
  · unfold le
    rw [sw, sw]
    by_cases e1 : k = i
    · subst e1
      rw [if_pos rfl, if_neg (by omega), if_pos rfl]
      exact o.asym _ _ hl
    · rw [if_neg e1, if_neg k2]
      by_cases e2 : par k = i
      · rw [if_pos e2]
        exact h.grand h0 k k0 k1 e2
      · rw [if_neg e2]
        by_cases e3 : par k = par i
        · rw [if_pos e3]
          have a := h.rest k k0 k1 e1
          rw [e3] at a
          exact o.le_trans _ _ _ (o.asym _ _ hl) a
        · rw [if_neg e3]
          exact h.rest k k0 k1 e1
  · have hpp : par (par i) < par i := by unfold par at p0 ⊢; omega
    unfold le
    rw [sw, sw]
    have a := h.rest (par i) p0 (by omega) (by omega)
    by_cases e1 : k = i
    · rw [if_pos e1, if_neg (by omega), if_neg (by omega)]
      exact a
    · rw [if_neg e1, if_neg (by unfold par at k2 hp ⊢; omega), if_neg (by omega), if_neg (by omega)]
      have b := h.rest k k0 k1 e1
      rw [k2] at b
      exact o.le_trans _ _ _ a b
/-- The lesser child, if it is less than i: swapped, all is well but under it. -/
theorem down_step {l : List α} {n i j : Nat} (o : Ordr lt) (h : ButAt lt l n i) (hj0 : 0 < j) (hj : j < n) (hp : par j = i) (hn : n ≤ l.length) (hl : lt (at_ l j) (at_ l i) = true)
    (hmin : ∀ k, 0 < k → k < n → par k = i → le lt (at_ l j) (at_ l k)) : DownAt lt (swapL l i j) n j := by
  have hij : i < j := by unfold par at hp; omega
  have sw := fun k => swap_at l i j k (by omega) (by omega)
  refine ⟨fun k k0 k1 k2 => ?_, fun _ k k0 k1 k2 => ?_⟩
  · unfold le
    rw [sw, sw]
    by_cases e1 : k = j
    · subst e1
      rw [if_neg k2, if_pos hp, if_pos rfl]
      exact o.asym _ _ hl
    · rw [if_neg e1, if_neg k2]
      by_cases e2 : k = i
      · subst e2
        rw [if_pos rfl, if_neg (by unfold par; omega)]
        exact h.grand k0 j hj0 hj hp
      · rw [if_neg e2]
        by_cases e3 : par k = i
        · rw [if_pos e3]
          exact hmin k k0 k1 e3
        · rw [if_neg e3]
          exact h.rest k k0 k1 e2 e3
  · have hkj : j < k := by unfold par at k2; omega
    unfold le
    rw [sw, sw, hp, if_neg (by omega), if_neg (by omega), if_neg (by omega), if_pos rfl]
    have b := h.rest k k0 k1 (by omega) (by omega)
    rw [k2] at b
    exact b
theorem down_done {l : List α} {n i : Nat} (h : DownAt lt l n i) (hmin : ∀ k, 0 < k → k < n → par k = i → le lt (at_ l i) (at_ l k)) : Heap lt l n := fun k h0 h1 => by
  by_cases hk : par k = i
  · rw [hk]; exact hmin k h0 h1 hk
  · exact h.rest k h0 h1 hk
theorem but_up {l : List α} {n i : Nat} (h : ButAt lt l n i) (hmin : ∀ k, 0 < k → k < n → par k = i → le lt (at_ l i) (at_ l k)) : UpAt lt l n i :=
  ⟨fun k h0 h1 h2 => by
    by_cases hk : par k = i
    · rw [hk]; exact hmin k h0 h1 hk
    · exact h.rest k h0 h1 h2 hk, h.grand⟩
theorem heap_min {l : List α} {n : Nat} (o : Ordr lt) (h : Heap lt l n) (hir : ∀ a, lt a a = false) : ∀ k, k < n → le lt (at_ l 0) (at_ l k) := by
  intro k
  induction k using Nat.strongRecOn with
  | ind k ih =>
    intro hk
    by_cases h0 : k = 0
    · rw [h0]; exact hir _
    · have a := ih (par k) (by unfold par; omega) (by unfold par; omega)
      exact o.le_trans _ _ _ a (h k (by omega) hk)
/-- The last one in the first place: all is well but under it. -/
theorem pop_start {l : List α} {n : Nat} (h : Heap lt l (n + 1)) (hn : n + 1 ≤ l.length) : DownAt lt (swapL l 0 n) n 0 := by
  have sw := fun k => swap_at l 0 n k (by omega) (by omega)
  refine ⟨fun k k0 k1 k2 => ?_, fun h0 => by omega⟩
  have hp : par k < k := by unfold par; omega
  unfold le
  rw [sw, sw, if_neg (by omega), if_neg (by omega), if_neg (by omega), if_neg k2]
  exact h k k0 (by omega)
/-- The last one in the i-th place. -/
theorem remove_start {l : List α} {n i : Nat} (o : Ordr lt) (h : Heap lt l (n + 1)) (hn : n + 1 ≤ l.length) (hi : i < n) : ButAt lt (swapL l i n) n i := by
  have sw := fun k => swap_at l i n k (by omega) (by omega)
  refine ⟨fun k k0 k1 k2 k3 => ?_, fun h0 k k0 k1 k2 => ?_⟩
  · have hp : par k < k := by unfold par; omega
    unfold le
    rw [sw, sw, if_neg (by omega), if_neg k2, if_neg (by omega), if_neg k3]
    exact h k k0 (by omega)
  · have hp : par i < i := by unfold par; omega
    have hk : i < k := by unfold par at k2; omega
    unfold le
    rw [sw, sw, if_neg (by omega), if_neg (by omega), if_neg (by omega), if_neg (by omega)]
    have a := h i h0 (by omega)
    have b := h k k0 (by omega)
    rw [k2] at b
    exact o.le_trans _ _ _ a b
/-- The i-th one is another. -/
theorem set_start {l : List α} {n i : Nat} (o : Ordr lt) (h : Heap lt l n) (x : α) (hi : i < n) (hn : n ≤ l.length) : ButAt lt (l.set i x) n i := by
  have st : ∀ k, k ≠ i → at_ (l.set i x) k = at_ l k := fun k hk => by unfold at_; rw [List.getElem?_set_ne (by omega)]
  refine ⟨fun k k0 k1 k2 k3 => ?_, fun h0 k k0 k1 k2 => ?_⟩
  · unfold le
    rw [st k k2, st (par k) k3]
    exact h k k0 k1
  · have hp : par i < i := by unfold par; omega
    have hk : i < k := by unfold par at k2; omega
    unfold le
    rw [st k (by omega), st (par i) (by omega)]
    have a := h i h0 hi
    have b := h k k0 k1
    rw [k2] at b
    exact o.le_trans _ _ _ a b
/-- One more at the end. -/
theorem push_start {l : List α} {n : Nat} (o : Ordr lt) (h : Heap lt l n) (x : α) (hn : n = l.length) : UpAt lt (l ++ [x]) (n + 1) n := by
  have st : ∀ k, k < n → at_ (l ++ [x]) k = at_ l k := fun k hk => by unfold at_; rw [List.getElem?_append_left (by omega)]
  refine ⟨fun k k0 k1 k2 => ?_, fun h0 k k0 k1 k2 => by unfold par at k2; omega⟩
  have hp : par k < k := by unfold par; omega
  unfold le
  rw [st k (by omega), st (par k) (by omega)]
  exact h k k0 (by omega)
end

/-! ### Sorted lists -/
section
variable {α : Type} {lt : α → α → Bool}
theorem sorted_unique (tot : ∀ a b, lt a b = false → lt b a = false → a = b) (asym : ∀ a b, lt a b = true → lt b a = false) : ∀ (l m : List α), l.Perm m → l.Pairwise (fun a b => lt a b = true) → m.Pairwise (fun a b => lt a b = true) → l = m
  | [], m, h, _, _ => (List.Perm.nil_eq h)
  | a :: l, [], h, _, _ => by have := h.length_eq; simp at this
  | a :: l, b :: m, h, hl, hm => by
    have e : a = b := by
      rcases List.mem_cons.1 (h.mem_iff.1 (List.mem_cons_self ..)) with e | e
      · exact e
      · rcases List.mem_cons.1 (h.mem_iff.2 (List.mem_cons_self ..)) with f | f
        · exact f.symm
        · have h1 := (List.pairwise_cons.1 hm).1 a e
          have h2 := (List.pairwise_cons.1 hl).1 b f
          have := asym _ _ h1
          rw [h2] at this
          cases this
    subst e
    rw [sorted_unique tot asym l m (List.Perm.cons_inv h) (List.pairwise_cons.1 hl).2 (List.pairwise_cons.1 hm).2]
end
end Go.Proofs.Ytkodmoeohffjhaa.Hp
