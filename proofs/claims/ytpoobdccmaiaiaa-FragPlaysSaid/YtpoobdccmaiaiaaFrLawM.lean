/- The plain law of the joiner: an instruction's parts bring its bytes, once. No statement of the seat stands here. -/
import Derived.Test.YtpoobdccmaiaiaaFrJ
namespace Go.Proofs.Ytpoobdccmaiaiaa
open Go.RowKit
open Frag
set_option linter.unusedVariables false
set_option linter.unusedSimpArgs false

namespace Frag
theorem nodup_le : ∀ (n : Nat) (l : List Int), l.Nodup → (∀ x ∈ l, 0 ≤ x ∧ x < (n : Int)) → l.length ≤ n
  | 0, l, _, h => by
    cases l with
    | nil => simp
    | cons x l => have := h x (List.mem_cons_self ..); omega
  | n + 1, l, hd, h => by
    have h1 := nodup_le n (l.erase (n : Int)) (hd.erase _) (fun x hx => by
      have h2 := (hd.mem_erase_iff).1 hx
      have h3 := h x h2.2
      have h4 := h2.1
      omega)
    rw [List.length_erase] at h1
    split at h1 <;> omega
theorem nodup_all (n : Nat) (l : List Int) (hd : l.Nodup) (h : ∀ x ∈ l, 0 ≤ x ∧ x < (n : Int)) (hl : n ≤ l.length) (k : Int) (h0 : 0 ≤ k) (hk : k < n) : k ∈ l := by
  by_cases hm : k ∈ l
  · exact hm
  · have := nodup_le n (k :: l) (List.nodup_cons.2 ⟨hm, hd⟩) (fun x hx => by
      rcases List.mem_cons.1 hx with rfl | hx
      · exact ⟨h0, hk⟩
      · exact h x hx)
    simp at this
    omega
theorem fm_congr {α β : Type} {f g : α → List β} : ∀ (l : List α), (∀ x ∈ l, f x = g x) → l.flatMap f = l.flatMap g
  | [], _ => rfl
  | x :: l, h => by
    rw [List.flatMap_cons, List.flatMap_cons, h x (List.mem_cons_self ..), fm_congr l (fun y hy => h y (List.mem_cons_of_mem _ hy))]
/-- The entries of the parts of b at the places l. -/
def ents (b : List Int) (l : List Int) : List (Int × List Int) := l.map fun i => (i, chunk b i.toNat)
theorem hasIx_ents (b : List Int) (l : List Int) (k : Int) : hasIx (ents b l) k = decide (k ∈ l) := by
  unfold hasIx ents
  rw [List.find?_map]
  simp only [Option.isSome_map, Function.comp_def]
  rw [Bool.eq_iff_iff]
  simp [List.find?_isSome]
theorem lkB_ents (b : List Int) (l : List Int) (k : Nat) (h : (k : Int) ∈ l) : lkB (ents b l) k = chunk b k := by
  unfold lkB ents
  rw [List.find?_map]
  simp only [Function.comp_def]
  cases hf : l.find? (fun x => x == (k : Int)) with
  | none => exact absurd h (by have := List.find?_eq_none.1 hf; intro hm; simpa using this _ hm)
  | some x =>
    have := List.find?_some hf
    simp at this
    subst this
    simp [hf]
theorem chunks_take (b : List Int) : ∀ n : Nat, (List.range n).flatMap (fun i => chunk b i) = b.take (448 * n)
  | 0 => by simp
  | n + 1 => by
    rw [List.range_succ, List.flatMap_append, chunks_take b n]
    simp only [List.flatMap_cons, List.flatMap_nil, List.append_nil]
    unfold chunk
    rw [show 448 * (n + 1) = 448 * n + 448 by omega, List.take_add, Nat.mul_comm n 448]
theorem full_ents (b : List Int) (l : List Int) (n : Nat) (hn : b.length ≤ 448 * n) (h : ∀ k : Nat, k < n → (k : Int) ∈ l) : full (ents b l) n = b := by
  have : full (ents b l) n = (List.range n).flatMap (fun i => chunk b i) := by
    unfold full
    apply fm_congr
    intro k hk
    exact lkB_ents b l k (h k (List.mem_range.1 hk))
  rw [this, chunks_take, List.take_of_length_le hn]
/-- The joiner, of the parts of b with the places 'seen' taken. -/
structure BInv (id : Int) (b : List Int) (n : Nat) (s : JS) (seen : List Int) : Prop where
  nodup : seen.Nodup
  range : ∀ x ∈ seen, 0 ≤ x ∧ x < (n : Int)
  state : (seen = [] ∧ (s.any = false ∨ s.id < id)) ∨ (seen ≠ [] ∧ s.any = true ∧ s.id = id ∧ s.ct = n ∧ ((seen.length < n ∧ s.done = false ∧ s.es = ents b seen) ∨ (seen.length = n ∧ s.done = true ∧ s.es = [])))
theorem count_pos (b : List Int) : 1 ≤ count b := by unfold count; omega
theorem count_mul (b : List Int) : b.length ≤ 448 * count b := by unfold count; omega
theorem part_may (id : Int) (b : List Int) (hb : b.length ≤ 57344) (i : Nat) (hi : i < count b) : mayP ⟨id, i, count b, chunk b i⟩ = true := by
  rw [mayP_iff]
  have h1 : (chunk b i).length = min 448 (b.length - i * 448) := by unfold chunk; rw [List.length_take, List.length_drop]
  simp only
  rw [h1]
  unfold count at *
  omega
/-- A part that was seen is refused as old. -/
theorem BInv.again {id : Int} {b : List Int} {s : JS} {seen : List Int} (h : BInv id b (count b) s seen) (hb : b.length ≤ 57344) (i : Nat) (hi : i < count b) (hs : (i : Int) ∈ seen) :
    s.take ⟨id, i, count b, chunk b i⟩ = (⟨[], false, 16⟩, s) := by
  rcases h.state with ⟨rfl, _⟩ | ⟨_, ha, hid, hct, hst⟩
  · cases hs
  · unfold JS.take
    rw [part_may id b hb i hi, ha]
    simp only [Bool.true_eq_false, if_false, Bool.true_and, Bool.not_true, Bool.false_or]
    rw [if_neg (by simp [hid]), if_neg (by simp [hid]), if_neg (by simp [hct])]
    unfold JS.tail
    rw [if_pos]
    rcases hst with ⟨_, _, he⟩ | ⟨_, hd, _⟩
    · rw [he, hasIx_ents]
      simp [hs]
    · simp [hd]
/-- A part that was not seen is taken; the last one brings the bytes. -/
theorem BInv.next {id : Int} {b : List Int} {s : JS} {seen : List Int} (h : BInv id b (count b) s seen) (hb : b.length ≤ 57344) (i : Nat) (hi : i < count b) (hs : ¬ (i : Int) ∈ seen) :
    ∃ s', BInv id b (count b) s' (seen ++ [(i : Int)]) ∧ s.take ⟨id, i, count b, chunk b i⟩ = (if seen.length + 1 = count b then ⟨b, true, 0⟩ else ⟨[], false, 0⟩, s') := by
  have hnd : (seen ++ [(i : Int)]).Nodup := by
    rw [List.nodup_append]
    refine ⟨h.nodup, by simp, fun x hx y hy => ?_⟩
    rw [List.mem_singleton] at hy
    subst hy
    rintro rfl
    exact hs hx
  have hrg : ∀ x ∈ seen ++ [(i : Int)], 0 ≤ x ∧ x < (count b : Int) := fun x hx => by
    rcases List.mem_append.1 hx with hx | hx
    · exact h.range x hx
    · rw [List.mem_singleton.1 hx]; omega
  have hle := nodup_le (count b) _ hnd hrg
  rw [List.length_append] at hle
  simp at hle
  -- the state that the part is put into
  have key : ∀ s1 : JS, s1.any = true → s1.id = id → s1.ct = count b → s1.done = false → s1.es = ents b seen → s.take ⟨id, i, count b, chunk b i⟩ = s1.tail ⟨id, i, count b, chunk b i⟩ →
      ∃ s', BInv id b (count b) s' (seen ++ [(i : Int)]) ∧ s.take ⟨id, i, count b, chunk b i⟩ = (if seen.length + 1 = count b then ⟨b, true, 0⟩ else ⟨[], false, 0⟩, s') := by
    intro s1 ha hid hct hd he ht
    rw [ht]
    have hlen : s1.es.length = seen.length := by rw [he]; simp [ents]
    have hes : s1.es ++ [((i : Int), chunk b i)] = ents b (seen ++ [(i : Int)]) := by rw [he]; simp [ents]
    unfold JS.tail
    rw [if_neg (by rw [he, hasIx_ents, hd]; simp [hs])]
    simp only [hlen, hes]
    by_cases hlast : seen.length + 1 = count b
    · rw [if_neg (by rw [hct]; simp; omega), if_pos hlast]
      refine ⟨{ s1 with es := [], done := true }, ⟨hnd, hrg, .inr ⟨by simp, ha, hid, hct, .inr ⟨by simp; omega, rfl, rfl⟩⟩⟩, ?_⟩
      rw [hct, Int.toNat_natCast, full_ents b _ (count b) (count_mul b) (fun k hk => nodup_all (count b) _ hnd hrg (by simp; omega) k (by omega) (by omega))]
    · rw [if_pos (by rw [hct]; simp; omega), if_neg hlast]
      exact ⟨{ s1 with es := ents b (seen ++ [(i : Int)]) }, ⟨hnd, hrg, .inr ⟨by simp, ha, hid, hct, .inl ⟨by simp; omega, hd, rfl⟩⟩⟩, rfl⟩
  rcases h.state with ⟨rfl, hst⟩ | ⟨_, ha, hid, hct, hst⟩
  · refine key (JS.fresh ⟨id, i, count b, chunk b i⟩) rfl rfl rfl rfl rfl ?_
    unfold JS.take
    rw [part_may id b hb i hi]
    simp only [Bool.true_eq_false, if_false]
    rw [if_neg (by rcases hst with h | h <;> simp [h]; omega), if_pos (by rcases hst with h | h <;> simp [h])]
  · rcases hst with ⟨hl, hd, he⟩ | ⟨hl, _, _⟩
    · refine key s ha hid hct hd he ?_
      unfold JS.take
      rw [part_may id b hb i hi, ha]
      simp only [Bool.true_eq_false, if_false, Bool.true_and, Bool.not_true, Bool.false_or]
      rw [if_neg (by simp [hid]), if_neg (by simp [hid]), if_neg (by simp [hct])]
    · omega
end Frag
end Go.Proofs.Ytpoobdccmaiaiaa
