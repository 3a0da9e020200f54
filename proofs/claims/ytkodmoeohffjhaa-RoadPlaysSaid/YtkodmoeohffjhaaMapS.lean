/- A map with integer keys, told as the list of its entries in the order in which they came: made, read, one more entry, its length, cleared. No statement of the seat stands here. -/
import Derived.Test.YtkodmoeohffjhaaMem
import Derived.Maps.Own
namespace Go.Proofs.Ytkodmoeohffjhaa
open Go.RowKit
open Go.MapKept Go.ChangeMaps
set_option linter.unusedVariables false
set_option linter.unusedSimpArgs false

def lk (es : List (Int × Value)) (k : Int) : Option Value := (es.find? (fun p => p.1 == k)).map (·.2)
/-- Block b is a map whose entries are es. -/
def MapS (w : World) (b : Nat) (q : IntKind) (es : List (Int × Value)) : Prop :=
  ∃ arr clock, w.heap[b]? = some (.map arr clock) ∧ arr.toList.map (fun e => (e.key, e.val)) = es.map (fun p => (Value.int q p.1, p.2))
section
variable {w w' : World} {b : Nat} {q : IntKind} {es : List (Int × Value)}
theorem MapS.lt (h : MapS w b q es) : b < w.heap.size := by
  obtain ⟨_, _, hb, _⟩ := h
  exact (Array.getElem?_eq_some_iff.1 hb).1
theorem MapS.only {row : Option Nat} (h : MapS w b q es) (hg : w.grownBy w' row) (hne : some b ≠ row) : MapS w' b q es := by
  have hlt := h.lt
  obtain ⟨arr, clock, hb, he⟩ := h
  exact ⟨arr, clock, (hg.block b hlt hne).trans hb, he⟩
theorem MapS.under (h : MapS w b q es) (hb : Below w.heap.size w w') : MapS w' b q es := h.only (only_of_below hb none) (by simp)
theorem MapS.drewN (h : MapS w b q es) (n : Nat) : MapS (w.drewN n) b q es := h
theorem MapS.drew (h : MapS w b q es) : MapS w.drew b q es := h
theorem MapS.made (w : World) (q : IntKind) : MapS (w.alloc (.map #[] 0)) w.heap.size q [] := ⟨#[], 0, (MapKept.heap_alloc w _).1, rfl⟩
theorem MapS.set_ {p : Addr} (h : MapS w b q es) (hp : b ≠ p.block) (u : Value) : MapS (w.setCell p u) b q es := by
  obtain ⟨arr, clock, hb, he⟩ := h
  exact ⟨arr, clock, (Below.heap_setCell w p u b hp).trans hb, he⟩

theorem MapS.found (h : MapS w b q es) (k : Int) : ∃ arr clock, w.heap[b]? = some (.map arr clock) ∧ arr.toList.map (fun e => (e.key, e.val)) = es.map (fun p => (Value.int q p.1, p.2)) ∧
    (Instr.findNow (.int q) (.int q k) arr.toList 0).map (Option.map (·.2)) = some (lk es k) ∧ (lk es k = none → Instr.findNow (.int q) (.int q k) arr.toList 0 = some none) := by
  obtain ⟨arr, clock, hb, he⟩ := h
  refine ⟨arr, clock, hb, he, ?_⟩
  have : ∀ (l : List MapEntry) (es : List (Int × Value)) (i : Nat), l.map (fun e => (e.key, e.val)) = es.map (fun p => (Value.int q p.1, p.2)) →
      (Instr.findNow (.int q) (.int q k) l i).map (Option.map (·.2)) = some (lk es k) ∧ (lk es k = none → Instr.findNow (.int q) (.int q k) l i = some none) := by
    intro l
    induction l with
    | nil =>
      intro es i h
      cases es with
      | nil => exact ⟨rfl, fun _ => rfl⟩
      | cons _ _ => simp at h
    | cons e l ih =>
      intro es i h
      cases es with
      | nil => simp at h
      | cons p es =>
        simp only [List.map_cons, List.cons.injEq, Prod.mk.injEq] at h
        obtain ⟨⟨h1, h2⟩, h3⟩ := h
        have hs : Instr.sameNow (.int q) (.int q k) e.key = some (k == p.1) := by rw [h1]; simp [Instr.sameNow]
        have hc : (p.1 == k) = (k == p.1) := by rw [Bool.eq_iff_iff]; simp; exact eq_comm
        unfold Instr.findNow lk
        rw [hs]
        rw [List.find?_cons, hc]
        cases k == p.1
        · exact ih es (i + 1) h3
        · simp [h2]
  exact this arr.toList es 0 he
end

section
variable {P : Program} {w : World} {b : Nat} {q : IntKind} {es : List (Int × Value)} {t kt et : TypeId}
theorem MapS.look (h : MapS w b q es) (ht : P.underlying t = some (.map kt et)) (hk : P.underlying kt = some (.int q)) {z : Value} (hz : (zeroValue et).run P w = .ok z w) (k : Int) (ok : Bool) :
    (Instr.lookup t (.map (some b)) (.int q k) ok).run P w = .ok (if ok then .tuple #[(lk es k).getD z, .bool (lk es k).isSome] else (lk es k).getD z) w := by
  obtain ⟨arr, clock, hb, he, hf, hn⟩ := h.found k
  obtain ⟨a, ha⟩ : ∃ a, Instr.findNow (.int q) (.int q k) arr.toList 0 = some a := by
    cases hx : Instr.findNow (.int q) (.int q k) arr.toList 0 with
    | none => rw [hx] at hf; simp at hf
    | some a => exact ⟨a, rfl⟩
  rw [ha] at hf
  simp only [Option.map_some, Option.some.injEq] at hf
  have r2 := run_checkKey (P := P) (w := w) hk (show IsKey (.int q) (.int q k) by simp [IsKey]) arr.isEmpty 9999
  have r3 := run_findKey (P := P) (w := w) hk ha
  cases a with
  | none =>
    rw [← hf]
    simp [Instr.lookup, run_underlying ht, MapKept.run_getObj_map hb, r2, r3, Result.andThen, hz]
  | some p =>
    rw [← hf]
    simp [Instr.lookup, run_underlying ht, MapKept.run_getObj_map hb, r2, r3, Result.andThen, hz]
theorem MapS.store (h : MapS w b q es) (ht : P.underlying t = some (.map kt et)) (hk : P.underlying kt = some (.int q)) (k : Int) (hnew : lk es k = none) (v : Value) :
    ∃ w', (Instr.mapUpdate t (.map (some b)) (.int q k) v).run P w = .ok () w' ∧ MapS w' b q (es ++ [(k, v)]) ∧ w.grownBy w' (some b) := by
  obtain ⟨arr, clock, hb, he, _, hn⟩ := h.found k
  have r2 := run_checkKey (P := P) (w := w) hk (show IsKey (.int q) (.int q k) by simp [IsKey]) false 9999
  have r3 := run_findKey (P := P) (w := w) hk (hn hnew)
  refine ⟨setBlock w b (.map (arr.push { key := Value.int q k, val := v, born := clock }) (clock + 1)), by simp [Instr.mapUpdate, run_underlying ht, MapKept.run_getObj_map hb, r2, r3, MapKept.run_setObj_map _ hb, Result.andThen, setBlock], ⟨_, _, (heap_set hb).1, ?_⟩, ⟨rfl, rfl, rfl, by simp [setBlock], fun i _ hi => (heap_set hb).2 i (fun e => hi (by rw [e]))⟩⟩
  simp [he]
theorem MapS.len (h : MapS w b q es) (ht : P.underlying t = some (.map kt et)) (ty : TypeId) : (Builtin.len_ #[t] ty #[.map (some b)]).run P w = .ok (.int .i64 es.length) w := by
  obtain ⟨arr, clock, hb, he⟩ := h
  have hl : arr.size = es.length := by
    have := congrArg List.length he
    simpa using this
  simp [Builtin.len_, run_underlying ht, MapKept.run_getObj_map hb, Result.andThen, hl, goInt]
theorem MapS.clear (h : MapS w b q es) (ht : P.underlying t = some (.map kt et)) (ty : TypeId) :
    ∃ w', (Builtin.clear_ #[t] ty #[.map (some b)]).run P w = .ok (.tuple #[]) w' ∧ MapS w' b q [] ∧ w.grownBy w' (some b) := by
  obtain ⟨arr, clock, hb, he⟩ := h
  exact ⟨setBlock w b (.map #[] clock), by simp [Builtin.clear_, run_underlying ht, MapKept.run_getObj_map hb, MapKept.run_setObj_map _ hb, Result.andThen, setBlock], ⟨_, _, (heap_set hb).1, rfl⟩, ⟨rfl, rfl, rfl, by simp [setBlock], fun i _ hi => (heap_set hb).2 i (fun e => hi (by rw [e]))⟩⟩
end
theorem wpList_clear_map {P : Program} {ops : Array Oper} {rest : List Oper} {o : Oper} {a : Act} {Q : Exit → Act → World → Prop} (w : World) (hgd : o.guard = none) (m : Operand) (t kt et : TypeId) (ho : o.op = .call { callee := .builtin .clear, args := #[m], argTypes := #[t] })
    (ht : P.underlying t = some (.map kt et)) (b : Nat) (q : IntKind) (es : List (Int × Value)) (hm : a.eval m = .map (some b)) (hM : MapS w b q es)
    (h : ∀ w', MapS w' b q [] → w.grownBy w' (some b) → wpList P ops Q rest (a.put o.dst (.tuple #[])) w') : wpList P ops Q (o :: rest) a w := by
  obtain ⟨w', hrun, h1, h2⟩ := hM.clear (P := P) ht o.type
  refine wpList_plain hgd fun K hK => ?_
  unfold Oper.wp execOp
  simp only [ho, resolve, invoke, builtin, Sem.run_bind, Sem.run_pure, Result.andThen_ok, List.map_toArray, List.map_cons, List.map_nil, hm, hrun]
  exact hK _ _ (h w' h1 h2)
theorem wpList_store_map {P : Program} {ops : Array Oper} {rest : List Oper} {o : Oper} {a : Act} {Q : Exit → Act → World → Prop} (w : World) (hgd : o.guard = none) (m x v : Operand) (t kt et : TypeId) (ho : o.op = Op.mapUpdate t m x v)
    (ht : P.underlying t = some (.map kt et)) (b : Nat) (q : IntKind) (hk : P.underlying kt = some (.int q)) (es : List (Int × Value)) (k : Int) (val : Value) (hm : a.eval m = .map (some b)) (hx : a.eval x = .int q k) (hv : a.eval v = val) (hM : MapS w b q es) (hnew : lk es k = none)
    (h : ∀ w', MapS w' b q (es ++ [(k, val)]) → w.grownBy w' (some b) → wpList P ops Q rest (a.put o.dst undef) w') : wpList P ops Q (o :: rest) a w := by
  obtain ⟨w', hrun, h1, h2⟩ := hM.store (P := P) ht hk k hnew val
  refine wpList_plain hgd fun K hK => ?_
  unfold Oper.wp
  simp [execOp, ho, hm, hx, hv, hrun, Result.andThen]
  exact hK _ _ (h w' h1 h2)
theorem step_store_map {P : Program} {ops : Array Oper} {o : Oper} {a : Act} {K : Act → World → Prop} {Q : Exit → Act → World → Prop} {E : Prop} (w : World) (hgd : o.guard = none) (m x v : Operand) (t kt et : TypeId) (ho : o.op = Op.mapUpdate t m x v)
    (ht : P.underlying t = some (.map kt et)) (b : Nat) (q : IntKind) (hk : P.underlying kt = some (.int q)) (es : List (Int × Value)) (k : Int) (val : Value) (hm : a.eval m = .map (some b)) (hx : a.eval x = .int q k) (hv : a.eval v = val) (hM : MapS w b q es) (hnew : lk es k = none)
    (h : ∀ w', MapS w' b q (es ++ [(k, val)]) → w.grownBy w' (some b) → K (a.put o.dst undef) w') :
    if Region.wanted o (yielded ops a.tmps) = true then Oper.wp P o a w K Q else E := by
  have hw : Region.wanted o (yielded ops a.tmps) = true := by simp [Region.wanted, hgd]
  rw [if_pos hw]
  obtain ⟨w', hrun, h1, h2⟩ := hM.store (P := P) ht hk k hnew val
  unfold Oper.wp
  simp [execOp, ho, hm, hx, hv, hrun, Result.andThen]
  exact h w' h1 h2
end Go.Proofs.Ytkodmoeohffjhaa
