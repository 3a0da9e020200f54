/- Append of integers: with the sum named, and at a step of a region that draws its order. -/
import Derived.Test.YtkodmoeohffjhaaMem
import Derived.Deep.RegionHeld3
import Derived.Deep.AppendLies
namespace Go.Proofs.Ytkodmoeohffjhaa
open Go.RowKit
set_option linter.unusedVariables false
set_option linter.unusedSimpArgs false

theorem below_alloc {a w : World} (h : Below a.heap.size a w) (o : Obj) : Below a.heap.size a (w.alloc o) := h.alloc h.size o
theorem below_drew {B : Nat} {a w : World} (h : Below B a w) : Below B a w.drew := ⟨h.os, h.tape, h.output, h.size, h.block⟩
theorem wpList_append_to {P : Program} {ops : Array Oper} {rest : List Oper} {o : Oper} {a : Act} {Q : Exit → Act → World → Prop} (w : World) (hgd : o.guard = none) (s x : Operand) (t e : TypeId) (k : IntKind) (bytes : Nat)
    (ho : o.op = .call { callee := .builtin .append, args := #[s, x], argTypes := #[t, t] })
    (ht : P.underlying t = some (.slice e)) (hi : (P.info? e).map (fun i => (i.zero, i.size, i.bytes)) = some (some (.int k 0), 1, bytes)) (hby : bytes ≤ 8)
    (base : Nat) (v : Value) (xs : List Int) (hs : a.eval s = v) (hown : OwnI w base e k v xs) (A : Option Addr) (c m : Nat) (ys : List Int) (hx : a.eval x = .slice A m c) (hr : ReadI w k A ys) (hm : m = ys.length)
    (n : Nat) (zs : List Int) (hz : zs = xs ++ ys) (hnn : n = xs.length + ys.length) (hn : n ≤ 17592186044415) (hbase : base ≤ w.heap.size)
    (h : ∀ A' c' w', Apped w w' base e k v (.slice A' n c') zs → wpList P ops Q rest (a.put o.dst (.slice A' n c')) w') : wpList P ops Q (o :: rest) a w := by
  subst hz hnn hm
  exact wpList_append_ints w hgd s x t e k bytes ho ht hi hby base v xs hs hown A c ys hx hr hn hbase h
theorem step_append_to {P : Program} {ops : Array Oper} {o : Oper} {a : Act} {K : Act → World → Prop} {Q : Exit → Act → World → Prop} {E : Prop} (w : World) (hgd : o.guard = none) (s x : Operand) (t e : TypeId) (k : IntKind) (bytes : Nat)
    (ho : o.op = .call { callee := .builtin .append, args := #[s, x], argTypes := #[t, t] })
    (ht : P.underlying t = some (.slice e)) (hi : (P.info? e).map (fun i => (i.zero, i.size, i.bytes)) = some (some (.int k 0), 1, bytes)) (hby : bytes ≤ 8)
    (base : Nat) (v : Value) (xs : List Int) (hs : a.eval s = v) (hown : OwnI w base e k v xs) (A : Option Addr) (c m : Nat) (ys : List Int) (hx : a.eval x = .slice A m c) (hr : ReadI w k A ys) (hm : m = ys.length)
    (n : Nat) (zs : List Int) (hz : zs = xs ++ ys) (hnn : n = xs.length + ys.length) (hn : n ≤ 17592186044415) (hbase : base ≤ w.heap.size)
    (h : ∀ A' c' w', Apped w w' base e k v (.slice A' n c') zs → K (a.put o.dst (.slice A' n c')) w') :
    if Region.wanted o (yielded ops a.tmps) = true then Oper.wp P o a w K Q else E := by
  subst hz hnn hm
  have hw : Region.wanted o (yielded ops a.tmps) = true := by simp [Region.wanted, hgd]
  rw [if_pos hw]
  obtain ⟨A', c', w', hrun, h2⟩ := run_append_ints (P := P) w t o.type e k bytes ht hi base v xs hown A c ys hr hn hby hbase
  unfold Oper.wp execOp
  simp only [ho, resolve, invoke, builtin, Sem.run_bind, Sem.run_pure, Result.andThen_ok, List.map_toArray, List.map_cons, List.map_nil, hs, hx, hrun]
  exact h A' c' w' h2
end Go.Proofs.Ytkodmoeohffjhaa
