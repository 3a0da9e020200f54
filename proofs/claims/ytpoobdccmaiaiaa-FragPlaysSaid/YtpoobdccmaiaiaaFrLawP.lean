/- The plain law: the program's joiner and the document's answer alike. No statement of the seat stands here. -/
import Derived.Test.YtpoobdccmaiaiaaFrLawM
import Derived.Test.YtpoobdccmaiaiaaFrR
namespace Go.Proofs.Ytpoobdccmaiaiaa
open Go.RowKit
open Frag
set_option linter.unusedVariables false
set_option linter.unusedSimpArgs false

namespace Frag
def fil (T : List PV) (id : Int) : List PV := T.filter fun t => t.id == id
def entsP (F : List PV) : List (Int × List Int) := F.map fun t => (t.ix, t.bs)
theorem hasIx_entsP (F : List PV) (k : Int) : hasIx (entsP F) k = F.any fun t => t.ix == k := by
  unfold hasIx entsP
  rw [List.find?_map]
  simp only [Option.isSome_map, Function.comp_def]
  rw [Bool.eq_iff_iff]
  simp [List.find?_isSome, List.any_eq_true]
theorem lkB_entsP : ∀ (F : List PV) (k : Int), (F.map (·.ix)).Nodup → lkB (entsP F) k = (F.filter fun t => t.ix == k).flatMap (·.bs)
  | [], k, _ => rfl
  | t :: F, k, h => by
    have h2 := List.nodup_cons.1 (show (t.ix :: F.map (·.ix)).Nodup from h)
    have ih := lkB_entsP F k h2.2
    by_cases he : t.ix = k
    · have hno : (F.filter fun t => t.ix == k) = [] := by
        apply List.filter_eq_nil_iff.2
        intro u hu hk
        simp at hk
        exact h2.1 (by rw [he]; exact List.mem_map.2 ⟨u, hu, hk⟩)
      simp [lkB, entsP, he, hno]
    · have : lkB (entsP (t :: F)) k = lkB (entsP F) k := by simp [lkB, entsP, he]
      rw [this, ih]
      simp [he]
theorem full_rfull (T : List PV) (id : Int) (n : Nat) (h : ((fil T id).map (·.ix)).Nodup) : full (entsP (fil T id)) n = rfull T id n := by
  unfold full rfull
  apply fm_congr
  intro k _
  rw [lkB_entsP _ _ h]
  unfold fil
  rw [List.filter_filter]
  congr 1
  apply List.filter_congr
  intro t _
  exact Bool.and_comm _ _
structure PIn (s : JS) (F : List PV) : Prop where
  ne : F ≠ []
  each : ∀ t ∈ F, t.ct = s.ct ∧ 0 ≤ t.ix ∧ t.ix < s.ct
  nodup : (F.map (·.ix)).Nodup
  ct : 1 ≤ s.ct ∧ s.ct ≤ 128
  st : (s.done = false ∧ (F.length : Int) < s.ct ∧ s.es = entsP F) ∨ (s.done = true ∧ (F.length : Int) = s.ct ∧ s.es = [])
def PInv (s : JS) (T : List PV) : Prop :=
  (s.any = false ∧ T = []) ∨ (s.any = true ∧ (∀ t ∈ T, t.id ≤ s.id) ∧ PIn s (fil T s.id))
theorem fil_put (T : List PV) (p : PV) : fil (T ++ [p]) p.id = fil T p.id ++ [p] := by unfold fil; rw [List.filter_append]; simp
theorem countP_fil (T : List PV) (id : Int) : T.countP (fun t => t.id == id) = (fil T id).length := by unfold fil; exact List.countP_eq_length_filter
/-- A part goes in: s has what T has of its number. -/
theorem put_step (s : JS) (T : List PV) (p : PV) (hm : mayP p = true) (ha : s.any = true) (hid : s.id = p.id) (hct : s.ct = p.ct) (hall : ∀ t ∈ T, t.id ≤ p.id)
    (hF : ∀ t ∈ fil T p.id, t.ct = s.ct ∧ 0 ≤ t.ix ∧ t.ix < s.ct) (hnd : ((fil T p.id).map (·.ix)).Nodup) (hst : (s.done = false ∧ ((fil T p.id).length : Int) < s.ct ∧ s.es = entsP (fil T p.id)) ∨ (s.done = true ∧ ((fil T p.id).length : Int) = s.ct ∧ s.es = [] ∧ fil T p.id ≠ [])) :
    (s.tail p).1 = (rtake T p).1 ∧ PInv (s.tail p).2 (if (rtake T p).2 then T ++ [p] else T) := by
  have hp := (mayP_iff p).1 hm
  have r0 : T.any (fun t => decide (p.id < t.id)) = false := by
    rw [List.any_eq_false]
    intro t ht h
    have := hall t ht
    have := of_decide_eq_true h
    omega
  have r1 : T.any (fun t => t.id == p.id && t.ct != p.ct) = false := by
    rw [List.any_eq_false]
    intro t ht h
    simp at h
    have := (hF t (by unfold fil; exact List.mem_filter.2 ⟨ht, by simp [h.1]⟩)).1
    exact h.2 (by omega)
  have r2 : T.any (fun t => t.id == p.id && t.ix == p.ix) = (fil T p.id).any (fun t => t.ix == p.ix) := by unfold fil; rw [List.any_filter]
  have hr : rtake T p = if (fil T p.id).any (fun t => t.ix == p.ix) then (⟨[], false, 16⟩, false) else if decide (((fil T p.id).length : Int) + 1 < p.ct) then (⟨[], false, 0⟩, true) else (⟨rfull (T ++ [p]) p.id p.ct.toNat, true, 0⟩, true) := by
    unfold rtake
    rw [hm]
    simp only [Bool.true_eq_false, if_false]
    rw [if_neg (by rw [r0]; decide), if_neg (by rw [r1]; decide), r2, countP_fil]
  have hsame : PIn s (fil T p.id) → PInv s T := fun h => .inr ⟨ha, by rw [hid]; exact hall, by rw [hid]; exact h⟩
  by_cases hin : (fil T p.id).any (fun t => t.ix == p.ix) = true
  · have hne : fil T p.id ≠ [] := by intro h; rw [h] at hin; simp at hin
    have hpin : PIn s (fil T p.id) := ⟨hne, hF, hnd, by omega, by
      rcases hst with h | ⟨h1, h2, h3, _⟩
      · exact .inl h
      · exact .inr ⟨h1, h2, h3⟩⟩
    rw [hr, if_pos hin]
    unfold JS.tail
    rw [if_pos (by
      rcases hst with ⟨_, _, h⟩ | ⟨h, _⟩
      · rw [h, hasIx_entsP, hin]; rfl
      · rw [h]; simp)]
    exact ⟨rfl, hsame hpin⟩
  · have hin' : (fil T p.id).any (fun t => t.ix == p.ix) = false := by simpa using hin
    rcases hst with ⟨hd, hl, he⟩ | ⟨hd, hl, he, hne⟩
    · have hlen : s.es.length = (fil T p.id).length := by rw [he]; simp [entsP]
      have hes : s.es ++ [(p.ix, p.bs)] = entsP (fil (T ++ [p]) p.id) := by rw [he, fil_put]; simp [entsP]
      have hnd' : ((fil (T ++ [p]) p.id).map (·.ix)).Nodup := by
        rw [fil_put, List.map_append, List.nodup_append]
        refine ⟨hnd, by simp, fun x hx y hy => ?_⟩
        simp at hy
        subst hy
        rintro rfl
        obtain ⟨t, ht, e⟩ := List.mem_map.1 hx
        have := List.any_eq_false.1 hin' t ht
        exact this (by simp [e])
      have heach : ∀ t ∈ fil (T ++ [p]) p.id, t.ct = s.ct ∧ 0 ≤ t.ix ∧ t.ix < s.ct := fun t ht => by
        rw [fil_put] at ht
        rcases List.mem_append.1 ht with h | h
        · exact hF t h
        · rw [List.mem_singleton.1 h]; omega
      have hall' : ∀ t ∈ T ++ [p], t.id ≤ p.id := fun t ht => by
        rcases List.mem_append.1 ht with h | h
        · exact hall t h
        · rw [List.mem_singleton.1 h]; omega
      have hne' : fil (T ++ [p]) p.id ≠ [] := by rw [fil_put]; simp
      have hlen' : (fil (T ++ [p]) p.id).length = (fil T p.id).length + 1 := by rw [fil_put]; simp
      rw [hr, if_neg hin]
      unfold JS.tail
      rw [if_neg (by rw [he, hasIx_entsP, hin', hd]; decide)]
      by_cases hfew : ((fil T p.id).length : Int) + 1 < p.ct
      · rw [if_pos (by rw [hlen, hct]; simpa using hfew), if_pos (by simpa using hfew)]
        refine ⟨rfl, (show PInv { s with es := s.es ++ [(p.ix, p.bs)] } (T ++ [p]) from .inr ⟨ha, ?_, ?_⟩)⟩
        · simp only [hid]; exact hall'
        · simp only [hid]
          exact ⟨hne', heach, hnd', by simp only []; omega, .inl ⟨hd, by simp only []; omega, hes⟩⟩
      · rw [if_neg (by rw [hlen, hct]; simpa using hfew), if_neg (by simpa using hfew)]
        refine ⟨?_, (show PInv { s with es := [], done := true } (T ++ [p]) from .inr ⟨ha, ?_, ?_⟩)⟩
        · simp only [hes, hct]
          rw [full_rfull _ _ _ hnd']
        · simp only [hid]; exact hall'
        · simp only [hid]
          exact ⟨hne', heach, hnd', by simp only []; omega, .inr ⟨rfl, by simp only []; omega, rfl⟩⟩
    · exfalso
      have hall2 := nodup_all p.ct.toNat ((fil T p.id).map (·.ix)) hnd (fun x hx => by
        obtain ⟨t, ht, rfl⟩ := List.mem_map.1 hx
        have := hF t ht
        omega) (by simp; omega) p.ix (by omega) (by omega)
      obtain ⟨t, ht, e⟩ := List.mem_map.1 hall2
      exact List.any_eq_false.1 hin' t ht (by simp [e])
/-- The program's joiner and the document's: the same answer, and they stay alike. -/
theorem play_step (s : JS) (T : List PV) (p : PV) (h : PInv s T) : (s.take p).1 = (rtake T p).1 ∧ PInv (s.take p).2 (if (rtake T p).2 then T ++ [p] else T) := by
  unfold JS.take
  cases hm : mayP p
  · have hr : rtake T p = (⟨[], false, 1⟩, false) := by unfold rtake; rw [if_pos hm]
    rw [hr]
    exact ⟨rfl, h⟩
  · simp only [Bool.true_eq_false, if_false]
    have hp := (mayP_iff p).1 hm
    rcases h with ⟨ha, rfl⟩ | ⟨ha, hall, hin⟩
    · rw [ha]
      simp only [Bool.false_and, Bool.not_false, Bool.true_or, Bool.false_eq_true, if_false, if_true]
      exact put_step (JS.fresh p) [] p hm rfl rfl rfl (fun _ h => by cases h) (fun _ h => by cases h) List.nodup_nil (.inl ⟨rfl, by simp [fil, JS.fresh]; omega, rfl⟩)
    · rw [ha]
      simp only [Bool.true_and, Bool.not_true, Bool.false_or]
      by_cases h1 : p.id < s.id
      · rw [if_pos (by simpa using h1)]
        have hr : rtake T p = (⟨[], false, 16⟩, false) := by
          unfold rtake
          rw [hm]
          simp only [Bool.true_eq_false, if_false]
          rw [if_pos]
          rw [List.any_eq_true]
          obtain ⟨t, ht⟩ := List.exists_mem_of_ne_nil _ hin.ne
          have h2 := List.mem_filter.1 ht
          simp at h2
          exact ⟨t, h2.1, by simp [h2.2]; omega⟩
        rw [hr]
        exact ⟨rfl, .inr ⟨ha, hall, hin⟩⟩
      · rw [if_neg (by simpa using h1)]
        by_cases h2 : s.id < p.id
        · rw [if_pos (by simpa using h2)]
          have hf : fil T p.id = [] := by
            unfold fil
            apply List.filter_eq_nil_iff.2
            intro t ht he
            simp at he
            have := hall t ht
            omega
          exact put_step (JS.fresh p) T p hm rfl rfl rfl (fun t ht => by have := hall t ht; omega) (by rw [hf]; exact fun _ h => by cases h) (by rw [hf]; exact List.nodup_nil) (.inl ⟨rfl, by rw [hf]; simp [JS.fresh]; omega, by rw [hf]; rfl⟩)
        · rw [if_neg (by simpa using h2)]
          have hid : s.id = p.id := by omega
          by_cases h3 : (p.ct != s.ct) = true
          · rw [if_pos h3]
            have hr : rtake T p = (⟨[], false, 3⟩, false) := by
              unfold rtake
              rw [hm]
              simp only [Bool.true_eq_false, if_false]
              rw [if_neg, if_pos]
              · rw [List.any_eq_true]
                obtain ⟨t, ht⟩ := List.exists_mem_of_ne_nil _ hin.ne
                have h4 := List.mem_filter.1 ht
                simp at h4
                have h5 := (hin.each t ht).1
                refine ⟨t, h4.1, ?_⟩
                simp at h3
                simp [h4.2, hid, h5]
                exact fun e => h3 e.symm
              · rw [Bool.not_eq_true, List.any_eq_false]
                intro t ht h
                have := hall t ht
                have := of_decide_eq_true h
                omega
            rw [hr]
            exact ⟨rfl, .inr ⟨ha, hall, hin⟩⟩
          · rw [if_neg h3]
            simp at h3
            rw [hid] at hin
            exact put_step s T p hm ha hid h3.symm (fun t ht => by have := hall t ht; omega) hin.each hin.nodup (by
              rcases hin.st with h | ⟨h1, h2, h3⟩
              · exact .inl h
              · exact .inr ⟨h1, h2, h3, hin.ne⟩)
end Frag
end Go.Proofs.Ytpoobdccmaiaiaa
