/- Stores into an owned row of mails; Swap walked. -/
import Derived.Test.YtkodmoeohffjhaaRoLess
import Derived.Deep.QuietTactic
namespace Go.Proofs.Ytkodmoeohffjhaa
open Go.RowKit
set_option linter.unusedVariables false
set_option linter.unusedSimpArgs false

/-- One cell of an owned row is set. -/
theorem OwnR.set_ {w : World} {base : Nat} {e : TypeId} {size n n' c g : Nat} {xs : List Value} (h : OwnR w base e size (.slice (some ⟨g, 0, none⟩) n' c) n xs) (j : Nat) (u : Value) :
    OwnR (w.setCell ⟨g, j, none⟩ u) base e size (.slice (some ⟨g, 0, none⟩) n' c) n (xs.set j u) := by
  refine ⟨by simpa using h.1, .inr ?_⟩
  rcases h.2 with ⟨h0, _⟩ | ⟨g', cap, cur, hv, hb, hh, h1, h2, h3, h4⟩
  · simp at h0
  · simp only [Value.slice.injEq, Option.some.injEq, Addr.mk.injEq, and_true] at hv
    obtain ⟨rfl, rfl, rfl⟩ := hv
    refine ⟨g, c, cur.setIfInBounds j u, rfl, hb, Blk.set_ hh j u, h1, h2, by simpa using h3, ?_⟩
    rw [← h4]
    simp [List.take_set]
theorem OwnR.frozen {w : World} {base : Nat} {e : TypeId} {size n n' c g : Nat} {xs : List Value} (h : OwnR w base e size (.slice (some ⟨g, 0, none⟩) n' c) n xs) (j : Nat) : w.frozen? ⟨g, j, none⟩ = false := by
  rcases h.2 with ⟨h0, _⟩ | ⟨g', cap, cur, hv, hb, hh, h1, h2, h3, h4⟩
  · simp at h0
  · simp only [Value.slice.injEq, Option.some.injEq, Addr.mk.injEq, and_true] at hv
    obtain ⟨rfl, rfl, rfl⟩ := hv
    exact Blk.frozen hh j
theorem OwnR.take_ {w : World} {base : Nat} {e : TypeId} {size n c g : Nat} {xs : List Value} (h : OwnR w base e size (.slice (some ⟨g, 0, none⟩) n c) n xs) (m : Nat) (hm : m ≤ n) :
    OwnR w base e size (.slice (some ⟨g, 0, none⟩) m c) m (xs.take (m * size)) := by
  have hms : m * size ≤ n * size := Nat.mul_le_mul_right _ hm
  refine ⟨by rw [List.length_take, h.1]; omega, .inr ?_⟩
  rcases h.2 with ⟨h0, _⟩ | ⟨g', cap, cur, hv, hb, hh, h1, h2, h3, h4⟩
  · simp at h0
  · simp only [Value.slice.injEq, Option.some.injEq, Addr.mk.injEq, and_true] at hv
    obtain ⟨rfl, _, rfl⟩ := hv
    refine ⟨g, c, cur, rfl, hb, hh, by omega, h2, h3, ?_⟩
    rw [← h4, List.take_take, Nat.min_eq_left hms]
theorem flat_take : ∀ (L : List ME) (m : Nat), (L.flatMap mcell).take (m * 5) = (L.take m).flatMap mcell
  | [], m => by simp
  | q :: L, 0 => by simp
  | q :: L, m + 1 => by
    rw [List.take_succ_cons, List.flatMap_cons, List.flatMap_cons, List.take_append, List.take_of_length_le (by simp [mcell]; omega), ← flat_take L m]
    congr 1
    congr 1
    simp [mcell]; omega
theorem flat_set : ∀ (L : List ME) (i : Nat) (q : ME), i < L.length →
    (((((L.flatMap mcell).set (i * 5) (.int .i64 q.1.due)).set (i * 5 + 1) (.int .i64 q.1.number)).set (i * 5 + 2) (.int .i64 q.1.addr)).set (i * 5 + 3) (.bool q.1.down)).set (i * 5 + 4) (.slice q.2.1 q.1.bs.length q.2.2) = (L.set i q).flatMap mcell
  | [], i, q, h => by simp at h
  | p :: L, 0, q, h => by simp [mcell]
  | p :: L, i + 1, q, h => by
    rw [List.set_cons_succ, List.flatMap_cons, List.flatMap_cons, ← flat_set L i q (by simpa using h)]
    have e : ∀ j, (i + 1) * 5 + j = (mcell p).length + (i * 5 + j) := fun j => by simp [mcell]; omega
    have e0 : (i + 1) * 5 = (mcell p).length + i * 5 := by simp [mcell]; omega
    rw [e 1, e 2, e 3, e 4, e0]
    simp only [List.set_append_right _ _ (Nat.le_add_right _ _), Nat.add_sub_cancel_left]
/-- The five cells of a mail, stored. -/
def put5 (w : World) (g o : Nat) (q : ME) : World := ((((w.setCell ⟨g, o, none⟩ (.int .i64 q.1.due)).setCell ⟨g, o + 1, none⟩ (.int .i64 q.1.number)).setCell ⟨g, o + 2, none⟩ (.int .i64 q.1.addr)).setCell ⟨g, o + 3, none⟩ (.bool q.1.down)).setCell ⟨g, o + 4, none⟩ (.slice q.2.1 q.1.bs.length q.2.2)
theorem OwnR.put5 {w : World} {base : Nat} {e : TypeId} {n n' c g : Nat} {L : List ME} (h : OwnR w base e 5 (.slice (some ⟨g, 0, none⟩) n' c) n (L.flatMap mcell)) (i : Nat) (q : ME) (hi : i < L.length) :
    OwnR (put5 w g (i * 5) q) base e 5 (.slice (some ⟨g, 0, none⟩) n' c) n ((L.set i q).flatMap mcell) := by
  rw [← flat_set L i q hi]
  exact ((((h.set_ _ _).set_ _ _).set_ _ _).set_ _ _).set_ _ _
theorem only_set {a w : World} {g : Nat} (h : a.grownBy w (some g)) (o : Nat) (u : Value) : a.grownBy (w.setCell ⟨g, o, none⟩ u) (some g) := only_setCell h (p := ⟨g, o, none⟩) (.inl rfl) u
theorem keeps_put5 (w : World) (g o : Nat) (q : ME) : w.grownBy (put5 w g o q) (some g) := by
  unfold put5
  exact only_set (only_set (only_set (only_set (only_set (only_refl w _) _ _) _ _) _ _) _ _) _ _

set_option maxHeartbeats 600000 in
set_option maxRecDepth 100000 in
theorem mswap_any (g n c base : Nat) (L : List ME) (w : World) (h : OwnR w base 71 5 (.slice (some ⟨g, 0, none⟩) n c) n (L.flatMap mcell)) (i k : Nat) (p q : ME) (hi : L[i]? = some p) (hk : L[k]? = some q) (hn : n = L.length) (hm : n < 1152921504606846976) :
    Calls Try.prog 82 #[.slice (some ⟨g, 0, none⟩) n c, .int .i64 i, .int .i64 k] w fun e w' => e = .returned (.tuple #[]) ∧ OwnR w' base 71 5 (.slice (some ⟨g, 0, none⟩) n c) n (((L.set i q).set k p).flatMap mcell) ∧ w.grownBy w' (some g) := by
  have hR := h.read
  obtain ⟨b, o, e, c1⟩ := mails_cells hR i p hi
  obtain ⟨b', o', e', c2⟩ := mails_cells hR k q hk
  cases e
  cases e'
  have hi' : i < n := by rw [hn]; exact (List.getElem?_eq_some_iff.1 hi).1
  have hk' : k < n := by rw [hn]; exact (List.getElem?_eq_some_iff.1 hk).1
  have p0 : w.cell? ⟨g, i * 5, none⟩ = some (.int .i64 p.1.due) := by have := c1 0 (by omega) _ rfl; rwa [Nat.zero_add] at this
  have p1 : w.cell? ⟨g, i * 5 + 1, none⟩ = some (.int .i64 p.1.number) := by have := c1 1 (by omega) _ rfl; rwa [Nat.zero_add] at this
  have p2 : w.cell? ⟨g, i * 5 + 2, none⟩ = some (.int .i64 p.1.addr) := by have := c1 2 (by omega) _ rfl; rwa [Nat.zero_add] at this
  have p3 : w.cell? ⟨g, i * 5 + 3, none⟩ = some (.bool p.1.down) := by have := c1 3 (by omega) _ rfl; rwa [Nat.zero_add] at this
  have p4 : w.cell? ⟨g, i * 5 + 4, none⟩ = some (.slice p.2.1 p.1.bs.length p.2.2) := by have := c1 4 (by omega) _ rfl; rwa [Nat.zero_add] at this
  have q0 : w.cell? ⟨g, k * 5, none⟩ = some (.int .i64 q.1.due) := by have := c2 0 (by omega) _ rfl; rwa [Nat.zero_add] at this
  have q1 : w.cell? ⟨g, k * 5 + 1, none⟩ = some (.int .i64 q.1.number) := by have := c2 1 (by omega) _ rfl; rwa [Nat.zero_add] at this
  have q2 : w.cell? ⟨g, k * 5 + 2, none⟩ = some (.int .i64 q.1.addr) := by have := c2 2 (by omega) _ rfl; rwa [Nat.zero_add] at this
  have q3 : w.cell? ⟨g, k * 5 + 3, none⟩ = some (.bool q.1.down) := by have := c2 3 (by omega) _ rfl; rwa [Nat.zero_add] at this
  have q4 : w.cell? ⟨g, k * 5 + 4, none⟩ = some (.slice q.2.1 q.1.bs.length q.2.2) := by have := c2 4 (by omega) _ rfl; rwa [Nat.zero_add] at this
  have hF := fun j => h.frozen j
  have hpq : i = k → p = q := by rintro rfl; rw [hi] at hk; exact Option.some.inj hk
  have hO : OwnR (put5 (put5 w g (i * 5) q) g (k * 5) p) base 71 5 (.slice (some ⟨g, 0, none⟩) n c) n (((L.set i q).set k p).flatMap mcell) := (h.put5 i q (by omega)).put5 k p (by simp; omega)
  have hG := only_trans (keeps_put5 w g (i * 5) q) (keeps_put5 (put5 w g (i * 5) q) g (k * 5) p) (fun g' e => .inl e)
  simp only [put5] at hO hG
  have HO := Lib.hid hO
  have HG := Lib.hid hG
  clear h hR hi hk c1 c2 hn hO hG
  rcases Nat.lt_trichotomy i k with hik | hik | hik
  · have hne : i ≠ k := by omega
    have hne5 : i * 5 ≠ k * 5 := by omega
    go_enter Try.func82, Try.ntmps82
    go_wp2_with fail
    go_region
    all_goals (go_end0; exact ⟨rfl, HO.out.under (below_drew (Below.refl _ _)), only_drew HG.out⟩)
  · obtain rfl := hpq hik
    subst hik
    clear q0 q1 q2 q3 q4
    go_enter Try.func82, Try.ntmps82
    go_wp2_with fail
    go_region
    all_goals (go_end0; exact ⟨rfl, HO.out.under (below_drew (Below.refl _ _)), only_drew HG.out⟩)
  · have hne : i ≠ k := by omega
    have hne5 : i * 5 ≠ k * 5 := by omega
    go_enter Try.func82, Try.ntmps82
    go_wp2_with fail
    go_region
    all_goals (go_end0; exact ⟨rfl, HO.out.under (below_drew (Below.refl _ _)), only_drew HG.out⟩)
end Go.Proofs.Ytkodmoeohffjhaa
