/- append(x, make([]T, n)...) on a slice of integers of the call's own. No statement of the seat stands here. -/
import Derived.Test.YtpoobdccmaiaiaaCellsA
namespace Go.Proofs.Ytpoobdccmaiaiaa
open Go.RowKit
set_option linter.unusedVariables false
set_option linter.unusedSimpArgs false

theorem zeroCells_int (k : IntKind) (m : Nat) : (Builtin.zeroCells #[Value.int k 0] m).toList = (List.replicate m (0 : Int)).map (Value.int k) := by
  apply List.ext_getElem?
  intro j
  unfold Builtin.zeroCells
  by_cases hj : j < m
  · simp [hj, Nat.mod_one]
  · simp [hj]
theorem run_append_make {P : Program} (w : World) (t tx ty e : TypeId) (k : IntKind) (bytes : Nat) (ht : P.underlying t = some (.slice e)) (hx : P.underlying tx = some (.int .i64)) (hi : (P.info? e).map (fun i => (i.zero, i.size, i.bytes)) = some (some (.int k 0), 1, bytes)) (hby : bytes ≤ 8)
    (base : Nat) (v : Value) (xs : List Int) (hown : OwnI w base e k v xs) (m : Nat) (hn : xs.length + m ≤ 17592186044415) (hbase : base ≤ w.heap.size) :
    ∃ A' c' w', (Builtin.append_ #[t, tx] ty #[v, .int .i64 m]).run P w = .ok (.slice A' (xs.length + m) c') w' ∧ Apped w w' base e k v (.slice A' (xs.length + m) c') (xs ++ List.replicate m 0) := by
  obtain ⟨i, hi0, hz, hs, hb⟩ : ∃ i, P.info? e = some i ∧ i.zero = some (.int k 0) ∧ i.size = 1 ∧ i.bytes = bytes := by
    cases h : P.info? e with
    | none => simp [h] at hi
    | some i => simp [h] at hi; exact ⟨i, rfl, hi.1, hi.2.1, hi.2.2⟩
  have hmul : (xs.length + m) * bytes ≤ 17592186044415 * 8 := Nat.mul_le_mul hn hby
  have hmul2 : m * bytes ≤ 17592186044415 * 8 := Nat.mul_le_mul (by omega) hby
  have hwrap : IntKind.i64.wrap (m : Int) = m := by rw [IntKind.wrap_i64]; omega
  have hneg : ¬ ((m : Int) < 0) := by omega
  have hfit : ¬ ((281474976710656 : Int) < (m : Int) * (i.bytes : Int)) := by
    rw [hb, ← Int.natCast_mul]
    have := hmul2
    omega
  have hlen : (xs ++ List.replicate m (0 : Int)).length = xs.length + m := by simp
  obtain ⟨A0, c0, hv0, hc0, hcm⟩ := hown.form
  subst hv0
  by_cases hroom : xs.length + m ≤ c0
  · rcases hown.2 with ⟨h0, hx0⟩ | ⟨g, cap, cur, hv, hbg, hg, hnc, hcm2, hcs, htake⟩
    · injection h0 with e1 e2 e3
      subst e1 e3
      have hm0 : m = 0 := by omega
      subst hm0
      refine ⟨none, 0, w, ?_, ?_, only_refl w _, .inl rfl⟩
      · simp [Builtin.append_, run_underlying ht, run_underlying hx, sizeOf, typeInfo, hi0, asInt, asIntOf, IntKind.wrap_i64, hx0]
      · simpa using hown
    · injection hv with e1 e2 e3
      subst e1 e3
      obtain ⟨news, hnews⟩ : ∃ news, news = (List.replicate m (0 : Int)).map (Value.int k) := ⟨_, rfl⟩
      have hnl : news.length = m := by rw [hnews]; simp
      have h1 : ∀ v ∈ news, v.oneCell' = true := by rw [hnews]; exact oneCell_ints k _
      have hst := run_storeCells_at P g xs.length e news 0 cur w hg (by rw [hnl, hcs]; omega) h1
      simp only [Nat.add_zero] at hst
      have hrun : (Builtin.append_ #[t, tx] ty #[.slice (some ⟨g, 0, none⟩) xs.length c0, .int .i64 m]).run P w = .ok (.slice (some ⟨g, 0, none⟩) (xs.length + m) c0) (w.setRow g (cur.toList.take xs.length ++ news ++ cur.toList.drop (xs.length + news.length)).toArray) := by
        by_cases hm0 : m = 0
        · subst hm0
          obtain rfl : news = [] := List.eq_nil_of_length_eq_zero hnl
          simp [Builtin.append_, run_underlying ht, run_underlying hx, sizeOf, typeInfo, hi0, asInt, asIntOf, IntKind.wrap_i64, hnc, Addr.add_lit, hs] at hst ⊢
          rw [hst]
          rfl
        · have hzc : (Builtin.zeroCells #[Value.int k 0] m).toList = news := by rw [hnews]; exact zeroCells_int k m
          simp [Builtin.append_, run_underlying ht, run_underlying hx, sizeOf, typeInfo, zeroValue, hi0, hz, hs, asInt, asIntOf, hwrap, hneg, hfit, hroom, hm0, Addr.add_lit, Value.cells, hzc, hst]
      refine ⟨some ⟨g, 0, none⟩, c0, _, hrun, ⟨⟨by simp, .inr ⟨g, c0, _, by rw [hlen], hbg, setRow_heap w g cur _ e _ hg, by rw [hlen]; exact hroom, hcm, ?_, ?_⟩⟩, ⟨rfl, rfl, rfl, by simp, fun j _ hj => setRow_other w g j _ (fun e => hj (by simp [Value.ownBlock, e]))⟩, .inl rfl⟩⟩
      · simp only [List.size_toArray, List.length_append, List.length_take, List.length_drop, Array.length_toList]
        omega
      · have ht2 : cur.toList.take xs.length = xs.map (Value.int k) := by simpa using htake
        rw [ht2]
        simp only [List.map_append]
        rw [← hnews]
        rw [hlen, Nat.mul_one]
        exact List.take_left' (by simp [hnl])
  · have h63 : ¬ (9223372036854775807 < ((xs.length : Int) + (m : Int))) := by omega
    have hm0 : m ≠ 0 := by omega
    have hbb : (xs.length + m) * i.bytes ≤ 140737488355328 := by rw [hb]; exact Nat.le_trans hmul (by decide)
    have h48 : ¬ (281474976710656 < Builtin.nextslicecap (xs.length + m) c0 * i.bytes) := by
      have := growslice_fits (need := xs.length + m) (old := c0) (bytes := i.bytes) (by omega) hbb
      omega
    have hfo : (Builtin.firstCells 1 xs.length (.slice A0 xs.length c0)).run P w.drew = .ok (xs.map (Value.int k)).toArray w.drew := by
      rcases hown.2 with ⟨h0, hx0⟩ | ⟨g, cap, cur, hv, hbg, hg, hnc, hcm2, hcs, htake⟩
      · injection h0 with e1 e2 e3
        subst e1
        rw [List.eq_nil_of_length_eq_zero hx0]
        exact run_firstCells_none w.drew 1 0 0 c0
      · injection hv with e1 e2 e3
        subst e1 e3
        exact run_firstCells_some w.drew 1 xs.length ⟨g, 0, none⟩ xs.length c0 (xs.map (Value.int k)) (by simp) (fun j u hu => by simpa using World.ownsRow.cells hown (g := g) rfl j u hu)
    have hge := grownCap_ge w (xs.length + m) c0 e
    have hcm3 : grownCap w (xs.length + m) c0 e ≤ maxLen := grownCap_le_maxLen w (xs.length + m) c0 e (by simp only [maxLen]; omega)
    have hrun : (Builtin.append_ #[t, tx] ty #[.slice A0 xs.length c0, .int .i64 m]).run P w = .ok (.slice (some ⟨w.heap.size, 0, none⟩) (xs.length + m) (grownCap w (xs.length + m) c0 e))
        (w.drew.alloc (.cells ((xs.map (Value.int k)).toArray ++ Builtin.zeroCells #[Value.int k 0] m ++ Builtin.zeroCells #[Value.int k 0] (grownCap w (xs.length + m) c0 e - (xs.length + m))) e)) := by
      simp [Builtin.append_, run_underlying ht, run_underlying hx, sizeOf, typeInfo, zeroValue, hi0, hz, hs, asInt, asIntOf, hwrap, hneg, hfit, hroom, hm0, h63, h48, Question.forced, hfo, newRow, grownCap, Value.cells]
    refine ⟨some ⟨w.heap.size, 0, none⟩, _, _, hrun, ⟨⟨by simp, .inr ⟨w.heap.size, _, _, by rw [hlen], hbase, heap_alloc_new w.drew _, by rw [hlen]; exact hge, hcm3, ?_, ?_⟩⟩, ⟨rfl, rfl, rfl, by simp, fun j hj _ => Below.heap_alloc w.drew _ j hj⟩, .inr rfl⟩⟩
    · simp only [Array.size_append, List.size_toArray, List.length_map, size_zeroCells]
      simp
      omega
    · rw [hlen, Nat.mul_one]
      simp only [Array.toList_append, List.append_assoc, zeroCells_int]
      rw [← List.append_assoc, ← List.map_append]
      exact List.take_left' (by simp)
theorem wpList_append_make {P : Program} {ops : Array Oper} {rest : List Oper} {o : Oper} {a : Act} {Q : Exit → Act → World → Prop} (w : World) (hgd : o.guard = none) (s x : Operand) (t tx e : TypeId) (k : IntKind) (bytes : Nat)
    (ho : o.op = .call { callee := .builtin .append, args := #[s, x], argTypes := #[t, tx] })
    (ht : P.underlying t = some (.slice e)) (hx : P.underlying tx = some (.int .i64)) (hi : (P.info? e).map (fun i => (i.zero, i.size, i.bytes)) = some (some (.int k 0), 1, bytes)) (hby : bytes ≤ 8)
    (base : Nat) (v : Value) (xs : List Int) (hs : a.eval s = v) (hown : OwnI w base e k v xs) (m : Nat) (hxv : a.eval x = .int .i64 m) (hn : xs.length + m ≤ 17592186044415) (hbase : base ≤ w.heap.size)
    (h : ∀ A' c' w', Apped w w' base e k v (.slice A' (xs.length + m) c') (xs ++ List.replicate m 0) → wpList P ops Q rest (a.put o.dst (.slice A' (xs.length + m) c')) w') : wpList P ops Q (o :: rest) a w := by
  obtain ⟨A', c', w', hrun, h2⟩ := run_append_make (P := P) w t tx o.type e k bytes ht hx hi hby base v xs hown m hn hbase
  refine wpList_plain hgd fun K hK => ?_
  unfold Oper.wp execOp
  simp only [ho, resolve, invoke, builtin, Sem.run_bind, Sem.run_pure, Result.andThen_ok, List.map_toArray, List.map_cons, List.map_nil, hs, hxv, hrun]
  exact hK _ _ (h A' c' w' h2)
end Go.Proofs.Ytpoobdccmaiaiaa
