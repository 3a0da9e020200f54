/- A row of bytes that a call builds by appends, beside one block of its own that stays. No statement of the seat stands here. -/
import Derived.Test.YtkodmoeohffjhaaKeeps
import Derived.Test.YtkodmoeohffjhaaReg
namespace Go.Proofs.Ytkodmoeohffjhaa
open Go.RowKit
set_option linter.unusedVariables false
set_option linter.unusedSimpArgs false

/-- The row v holds zs, all of it made since w0; block g stands with cs, and v is not in it. -/
structure Bld (w0 w : World) (e : TypeId) (k : IntKind) (v : Value) (zs : List Int) (g : Nat) (t : TypeId) (cs : Array Value) : Prop where
  own : OwnI w w0.heap.size e k v zs
  bel : Below w0.heap.size w0 w
  blk : Blk w g t cs
  off : v.ownBlock ≠ some g
section
variable {w0 w w' : World} {e : TypeId} {k : IntKind} {v v' : Value} {zs ys : List Int} {g : Nat} {t : TypeId} {cs : Array Value}
theorem Bld.alloc (h : Bld w0 w e k v zs g t cs) (o : Obj) : Bld w0 (w.alloc o) e k v zs g t cs := ⟨h.own.alloc o, below_alloc h.bel o, h.blk.alloc o, h.off⟩
theorem Bld.drew (h : Bld w0 w e k v zs g t cs) : Bld w0 w.drew e k v zs g t cs := ⟨h.own.drewN 1, below_drew h.bel, h.blk, h.off⟩
theorem Bld.drewN (h : Bld w0 w e k v zs g t cs) (n : Nat) : Bld w0 (w.drewN n) e k v zs g t cs := ⟨h.own.drewN n, below_drewN h.bel n, h.blk, h.off⟩
theorem Bld.under (h : Bld w0 w e k v zs g t cs) (hb : Below w.heap.size w w') : Bld w0 w' e k v zs g t cs := ⟨h.own.under hb, h.bel.trans (hb.mono h.bel.size), h.blk.under hb, h.off⟩
theorem Bld.start (h : Blk w g t cs) (hb : Below w0.heap.size w0 w) : Bld w0 w e k (.slice none 0 0) [] g t cs := ⟨OwnI.nil _ _ _ _, hb, h, fun h => by cases h⟩
/-- A literal begins the row. -/
theorem Bld.lit (h : Blk w g t cs) (hb : Below w0.heap.size w0 w) (n m : Nat) (zs : List Int) (row : Array Value) (hn : n = w.heap.size) (hz : m = zs.length) (hr : row = (zs.map (Value.int k)).toArray) (hm : zs.length ≤ maxLen) :
    Bld w0 (w.alloc (.cells row e)) e k (.slice (some ⟨n, 0, none⟩) m m) zs g t cs := by
  subst hn hz
  exact ⟨OwnI.lit w w0.heap.size e k zs row hr hb.size hm, below_alloc hb _, h.alloc _, fun x => by have := h.lt; simp [Value.ownBlock] at x; omega⟩
theorem Bld.read {A : Option Addr} {n c : Nat} (h : Bld w0 w e k (.slice A n c) zs g t cs) (hn : n = zs.length) : ReadI w k A zs := by
  subst hn
  exact h.own.read
theorem Bld.apped (h : Bld w0 w e k v zs g t cs) (ha : Apped w w' w0.heap.size e k v v' ys) : Bld w0 w' e k v' ys g t cs :=
  ⟨ha.own, below_of_only h.bel ha.only h.bel.size (fun x hx => (h.own.lt x hx).1), h.blk.grown ha.only (fun x => h.off x.symm), fun x => by
    rcases ha.where_ with y | y
    · rw [y] at x; exact h.off x
    · rw [y] at x; injection x with x; have := h.blk.lt; omega⟩
end
/-- append(v, ys...) -/
theorem wpList_bldR {P : Program} {ops : Array Oper} {rest : List Oper} {o : Oper} {a : Act} {Q : Exit → Act → World → Prop} (w : World) (hgd : o.guard = none) (s x : Operand) (t e : TypeId) (k : IntKind) (bytes : Nat)
    (ho : o.op = .call { callee := .builtin .append, args := #[s, x], argTypes := #[t, t] })
    (ht : P.underlying t = some (.slice e)) (hi : (P.info? e).map (fun i => (i.zero, i.size, i.bytes)) = some (some (.int k 0), 1, bytes)) (hby : bytes ≤ 8)
    {w0 : World} {v : Value} {zs : List Int} {g : Nat} {T : TypeId} {cs : Array Value} (h : Bld w0 w e k v zs g T cs) (hs : a.eval s = v) (A : Option Addr) (c m : Nat) (ys : List Int) (hx : a.eval x = .slice A m c) (hr : ReadI w k A ys) (hm : m = ys.length)
    (n : Nat) (hnn : n = zs.length + m) (hn : n ≤ 17592186044415)
    (K : ∀ A' c' w', Bld w0 w' e k (.slice A' n c') (zs ++ ys) g T cs → Apped w w' w0.heap.size e k v (.slice A' n c') (zs ++ ys) → wpList P ops Q rest (a.put o.dst (.slice A' n c')) w') : wpList P ops Q (o :: rest) a w := by
  subst hm
  exact wpList_append_to w hgd s x t e k bytes ho ht hi hby w0.heap.size v zs hs h.own A c ys.length ys hx hr rfl n _ rfl hnn hn h.bel.size (fun A' c' w' ha => K A' c' w' (h.apped ha) ha)
/-- append(v, b) -/
theorem wpList_bld1 {P : Program} {ops : Array Oper} {rest : List Oper} {o : Oper} {a : Act} {Q : Exit → Act → World → Prop} (w : World) (hgd : o.guard = none) (s x : Operand) (t e : TypeId) (k : IntKind) (bytes : Nat)
    (ho : o.op = .call { callee := .builtin .append, args := #[s, x], argTypes := #[t, t] })
    (ht : P.underlying t = some (.slice e)) (hi : (P.info? e).map (fun i => (i.zero, i.size, i.bytes)) = some (some (.int k 0), 1, bytes)) (hby : bytes ≤ 8)
    {w0 : World} {v : Value} {zs : List Int} {g : Nat} {T : TypeId} {cs : Array Value} (h : Bld w0 w e k v zs g T cs) (hs : a.eval s = v) (b : Int) (n0 : Nat) (hx : a.eval x = .slice (some ⟨n0, 0, none⟩) 1 1) (h0 : n0 = w.heap.size)
    (n : Nat) (hnn : n = zs.length + 1) (hn : n ≤ 17592186044415)
    (K : ∀ A' c' w', Bld w0 w' e k (.slice A' n c') (zs ++ [b]) g T cs → Apped (w.alloc (.cells #[.int k b] e)) w' w0.heap.size e k v (.slice A' n c') (zs ++ [b]) → wpList P ops Q rest (a.put o.dst (.slice A' n c')) w') : wpList P ops Q (o :: rest) a (w.alloc (.cells #[.int k b] e)) :=
  by
  subst h0
  exact wpList_bldR _ hgd s x t e k bytes ho ht hi hby (h.alloc _) hs _ 1 1 [b] hx (OwnI.lit1 w w.heap.size e k b (Nat.le_refl _)).read rfl n hnn hn K
end Go.Proofs.Ytkodmoeohffjhaa
