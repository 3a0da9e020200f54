/- A slice of structs that the call owns: what it holds cell by cell; one element appended. -/
import Derived.Test.YtkodmoeohffjhaaReg
namespace Go.Proofs.Ytkodmoeohffjhaa
open Go.RowKit
set_option linter.unusedVariables false
set_option linter.unusedSimpArgs false

/-- The slice v of n elements of 'size' cells owns the cells xs (v is nil, or a block of its own from 'base' on). -/
abbrev OwnR (w : World) (base : Nat) (e : TypeId) (size : Nat) (v : Value) (n : Nat) (xs : List Value) : Prop := w.ownsRow base e size v n xs
section
variable {w w' : World} {base : Nat} {e : TypeId} {size n : Nat} {v : Value} {xs : List Value}
theorem OwnR.nil (w : World) (base : Nat) (e : TypeId) (size : Nat) : OwnR w base e size (.slice none 0 0) 0 [] := World.ownsRow_nil w base e size
theorem OwnR.only (h : OwnR w base e size v n xs) {row : Option Nat} (hg : w.grownBy w' row) (hne : v.ownBlock = none ∨ v.ownBlock ≠ row) : OwnR w' base e size v n xs := World.ownsRow.kept h hg hne
theorem OwnR.under (h : OwnR w base e size v n xs) (hb : Below w.heap.size w w') : OwnR w' base e size v n xs :=
  World.ownsRow.kept h (only_of_below hb none) (by cases hv : v.ownBlock <;> simp)
theorem OwnR.alloc (h : OwnR w base e size v n xs) (o : Obj) : OwnR (w.alloc o) base e size v n xs := OwnR.only h (only_alloc (only_refl w none) o) (by cases hv : v.ownBlock <;> simp)
theorem OwnR.blocks (h : OwnR w base e size v n xs) : ∀ g, v.ownBlock = some g → base ≤ g ∧ g < w.heap.size := World.ownsRow.lt h
theorem OwnR.mono (h : OwnR w base e size v n xs) {base' : Nat} (hb : base' ≤ base) : OwnR w base' e size v n xs := by
  refine ⟨h.1, ?_⟩
  rcases h.2 with h0 | ⟨g, cap, cur, rfl, h1, r⟩
  · exact .inl h0
  · exact .inr ⟨g, cap, cur, rfl, by omega, r⟩
theorem OwnR.cell {g n' c : Nat} (h : OwnR w base e size (.slice (some ⟨g, 0, none⟩) n' c) n xs) (j : Nat) (u : Value) (hu : xs[j]? = some u) : w.cell? ⟨g, j, none⟩ = some u := by
  have := World.ownsRow.cells h (g := g) rfl j u hu
  rw [← this]
  congr 1
  unfold Addr.add
  split <;> simp_all
end

/-- append of one element that lies in a block of its own. -/
theorem wpList_append_row {P : Program} {ops : Array Oper} {rest : List Oper} {o : Oper} {a : Act} {Q : Exit → Act → World → Prop} (w : World) (hgd : o.guard = none) (s x : Operand) (t e : TypeId) (size bytes : Nat)
    (ho : o.op = .call { callee := .builtin .append, args := #[s, x], argTypes := #[t, t] })
    (ht : P.underlying t = some (.slice e)) (hi : (P.info? e).map (fun i => (i.zero.map fun z => z.cells.size, i.size, i.bytes)) = some (some size, size, bytes)) (hsz : 0 < size) (hby : bytes ≤ 4096)
    (base : Nat) (v : Value) (n : Nat) (xs : List Value) (hs : a.eval s = v) (hown : OwnR w base e size v n xs)
    (B : Nat) (cs : List Value) (hx : a.eval x = .slice (some ⟨B, 0, none⟩) 1 1) (hB : Blk w B e cs.toArray) (hl : cs.length = size) (h1 : ∀ u ∈ cs, u.oneCell' = true)
    (hn : n ≤ 1000000) (hbase : base ≤ w.heap.size)
    (h : ∀ g cap w', OwnR w' base e size (.slice (some ⟨g, 0, none⟩) (n + 1) cap) (n + 1) (xs ++ cs) → w.grownBy w' v.ownBlock → (v.ownBlock = some g ∨ g = w.heap.size) → g < w'.heap.size → wpList P ops Q rest (a.put o.dst (.slice (some ⟨g, 0, none⟩) (n + 1) cap)) w') : wpList P ops Q (o :: rest) a w := by
  obtain ⟨i, hi0⟩ : ∃ i, P.info? e = some i := by
    cases hq : P.info? e with
    | none => simp [hq] at hi
    | some i => exact ⟨i, rfl⟩
  rw [hi0] at hi
  simp only [Option.map_some, Option.some.injEq, Prod.mk.injEq] at hi
  obtain ⟨hz, hs2, hb2⟩ := hi
  obtain ⟨z, hz1, hz2⟩ := Option.map_eq_some_iff.1 hz
  have hmul : (n + 1) * bytes ≤ 1000001 * 4096 := Nat.mul_le_mul (by omega) hby
  exact wpList_append_lies w hgd s x t ho base e i z size bytes ht hi0 hz1 hs2 hb2 hz2 hsz v n xs hs hown ⟨B, 0, none⟩ 1 1 cs hx (by rw [hl, Nat.one_mul])
    (fun j u hu => World.news_of_block (cs := cs.toArray) (t := e) (fr := (0, 0)) hB j u (by simpa using hu)) h1 (by omega) (by simp only [maxLen]; omega) (by omega) hbase w.heap.size rfl h
end Go.Proofs.Ytkodmoeohffjhaa
