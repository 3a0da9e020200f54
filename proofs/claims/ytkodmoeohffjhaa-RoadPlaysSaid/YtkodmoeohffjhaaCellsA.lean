/- append of any readable cells onto a slice of the call's own; make-append. No statement of the seat stands here. -/
import Derived.Test.YtkodmoeohffjhaaKeeps
namespace Go.Proofs.Ytkodmoeohffjhaa
open Go.RowKit
set_option linter.unusedVariables false
set_option linter.unusedSimpArgs false

theorem Blk.read {w : World} {g : Nat} {t : TypeId} {cs : Array Value} (h : Blk w g t cs) : ReadC w (some ⟨g, 0, none⟩) cs.toList := fun _ => ⟨g, 0, rfl, fun j u hu => by rw [Nat.zero_add, h.cell]; simpa using hu⟩
theorem OwnR.form {w : World} {base : Nat} {e : TypeId} {size n : Nat} {v : Value} {xs : List Value} (h : OwnR w base e size v n xs) : ∃ A c, v = .slice A n c ∧ n ≤ c ∧ c ≤ maxLen := by
  rcases h.2 with ⟨rfl, rfl⟩ | ⟨g, cap, cur, rfl, _, _, h1, h2, _⟩
  · exact ⟨none, 0, rfl, by omega, by simp [maxLen]⟩
  · exact ⟨_, cap, rfl, h1, h2⟩
/-- What is known of a slice behind an append onto it. -/
structure AppedR (w w' : World) (base : Nat) (e : TypeId) (size : Nat) (v v' : Value) (n : Nat) (xs : List Value) : Prop where
  own : OwnR w' base e size v' n xs
  only : w.grownBy w' v.ownBlock
  where_ : v'.ownBlock = v.ownBlock ∨ v'.ownBlock = some w.heap.size
theorem run_append_cells {P : Program} (w : World) (t ty e : TypeId) (size bytes : Nat) (ht : P.underlying t = some (.slice e)) (hi : (P.info? e).map (fun i => (i.zero.map fun z => z.cells.size, i.size, i.bytes)) = some (some size, size, bytes)) (hsz : 0 < size) (hby : bytes ≤ 4096)
    (base : Nat) (v : Value) (n : Nat) (xs : List Value) (hown : OwnR w base e size v n xs) (A : Option Addr) (c m : Nat) (ys : List Value) (hr : ReadC w A ys) (hm : ys.length = m * size) (h1 : ∀ u ∈ ys, u.oneCell' = true)
    (hn : n + m ≤ 17179869184) (hbase : base ≤ w.heap.size) :
    ∃ A' c' w', (Builtin.append_ #[t, t] ty #[v, .slice A m c]).run P w = .ok (.slice A' (n + m) c') w' ∧ AppedR w w' base e size v (.slice A' (n + m) c') (n + m) (xs ++ ys) := by
  obtain ⟨i, hi0⟩ : ∃ i, P.info? e = some i := by
    cases hq : P.info? e with
    | none => simp [hq] at hi
    | some i => exact ⟨i, rfl⟩
  rw [hi0] at hi
  simp only [Option.map_some, Option.some.injEq, Prod.mk.injEq] at hi
  obtain ⟨hz, hs2, hb2⟩ := hi
  obtain ⟨z, hz1, hz2⟩ := Option.map_eq_some_iff.1 hz
  by_cases hy : m = 0
  · subst hy
    obtain rfl : ys = [] := List.eq_nil_of_length_eq_zero (by simpa using hm)
    obtain ⟨A0, c0, hv, hc0, _⟩ := hown.form
    refine ⟨A0, c0, w, ?_, ?_⟩
    · have := run_append_of_nil (P := P) w base t ty e i size ht hi0 v n _ hown A c
      simpa [hv] using this
    · subst hv
      exact ⟨by simpa using hown, only_refl w _, .inl rfl⟩
  · have hne : ys ≠ [] := by
      rintro rfl
      rcases Nat.mul_eq_zero.1 hm.symm with h | h <;> omega
    obtain ⟨b, o, rfl, hcell⟩ := hr hne
    have hmul : (n + m) * bytes ≤ 17179869184 * 4096 := Nat.mul_le_mul hn hby
    obtain ⟨v', w', hrun, h2, h3, _, h5⟩ := run_append_own_at (P := P) w base t ty e i z size bytes ht hi0 hz1 hs2 hb2 hz2 hsz v n xs hown ⟨b, o, none⟩ m c ys hm
      (fun j u hu => by
        have hc := hcell j u hu
        rw [← hc]
        congr 1
        unfold Addr.add
        split <;> simp_all)
      h1 (by simp only [maxLen]; omega) (Nat.le_trans hmul (by decide)) hbase
    obtain ⟨A', c', hv', _, _⟩ := OwnR.form h2
    subst hv'
    exact ⟨A', c', w', hrun, h2, h3, h5⟩
theorem wpList_append_cells {P : Program} {ops : Array Oper} {rest : List Oper} {o : Oper} {a : Act} {Q : Exit → Act → World → Prop} (w : World) (hgd : o.guard = none) (s x : Operand) (t e : TypeId) (size bytes : Nat)
    (ho : o.op = .call { callee := .builtin .append, args := #[s, x], argTypes := #[t, t] })
    (ht : P.underlying t = some (.slice e)) (hi : (P.info? e).map (fun i => (i.zero.map fun z => z.cells.size, i.size, i.bytes)) = some (some size, size, bytes)) (hsz : 0 < size) (hby : bytes ≤ 4096)
    (base : Nat) (v : Value) (n : Nat) (xs : List Value) (hs : a.eval s = v) (hown : OwnR w base e size v n xs) (A : Option Addr) (c m : Nat) (ys : List Value) (hx : a.eval x = .slice A m c) (hr : ReadC w A ys) (hm : ys.length = m * size) (h1 : ∀ u ∈ ys, u.oneCell' = true)
    (nn : Nat) (hnn : nn = n + m) (zs : List Value) (hzs : zs = xs ++ ys) (hn : nn ≤ 17179869184) (hbase : base ≤ w.heap.size)
    (h : ∀ A' c' w', AppedR w w' base e size v (.slice A' nn c') nn zs → wpList P ops Q rest (a.put o.dst (.slice A' nn c')) w') : wpList P ops Q (o :: rest) a w := by
  subst hnn hzs
  obtain ⟨A', c', w', hrun, h2⟩ := run_append_cells (P := P) w t o.type e size bytes ht hi hsz hby base v n xs hown A c m ys hr hm h1 hn hbase
  refine wpList_plain hgd fun K hK => ?_
  unfold Oper.wp execOp
  simp only [ho, resolve, invoke, builtin, Sem.run_bind, Sem.run_pure, Result.andThen_ok, List.map_toArray, List.map_cons, List.map_nil, hs, hx, hrun]
  exact hK _ _ (h A' c' w' h2)
theorem step_append_cells {P : Program} {ops : Array Oper} {o : Oper} {a : Act} {K : Act → World → Prop} {Q : Exit → Act → World → Prop} {E : Prop} (w : World) (hgd : o.guard = none) (s x : Operand) (t e : TypeId) (size bytes : Nat)
    (ho : o.op = .call { callee := .builtin .append, args := #[s, x], argTypes := #[t, t] })
    (ht : P.underlying t = some (.slice e)) (hi : (P.info? e).map (fun i => (i.zero.map fun z => z.cells.size, i.size, i.bytes)) = some (some size, size, bytes)) (hsz : 0 < size) (hby : bytes ≤ 4096)
    (base : Nat) (v : Value) (n : Nat) (xs : List Value) (hs : a.eval s = v) (hown : OwnR w base e size v n xs) (A : Option Addr) (c m : Nat) (ys : List Value) (hx : a.eval x = .slice A m c) (hr : ReadC w A ys) (hm : ys.length = m * size) (h1 : ∀ u ∈ ys, u.oneCell' = true)
    (nn : Nat) (hnn : nn = n + m) (zs : List Value) (hzs : zs = xs ++ ys) (hn : nn ≤ 17179869184) (hbase : base ≤ w.heap.size)
    (h : ∀ A' c' w', AppedR w w' base e size v (.slice A' nn c') nn zs → K (a.put o.dst (.slice A' nn c')) w') :
    if Region.wanted o (yielded ops a.tmps) = true then Oper.wp P o a w K Q else E := by
  subst hnn hzs
  have hw : Region.wanted o (yielded ops a.tmps) = true := by simp [Region.wanted, hgd]
  rw [if_pos hw]
  obtain ⟨A', c', w', hrun, h2⟩ := run_append_cells (P := P) w t o.type e size bytes ht hi hsz hby base v n xs hown A c m ys hr hm h1 hn hbase
  unfold Oper.wp execOp
  simp only [ho, resolve, invoke, builtin, Sem.run_bind, Sem.run_pure, Result.andThen_ok, List.map_toArray, List.map_cons, List.map_nil, hs, hx, hrun]
  exact h A' c' w' h2
end Go.Proofs.Ytkodmoeohffjhaa
