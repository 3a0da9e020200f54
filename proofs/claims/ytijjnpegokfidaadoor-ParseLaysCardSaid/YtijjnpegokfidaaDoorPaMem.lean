/- Acts in memory; a parser in memory; prints walked. No statement of the seat stands here. -/
import Derived.Test.YtijjnpegokfidaaDoorPaMath
import Derived.Test.YtijjnpegokfidaaDoorUtfFeed
import Derived.Test.YtijjnpegokfidaaDoorCellsA
import Derived.Deep.DeepCutAuto
namespace Go.Proofs.YtijjnpegokfidaaDoor
open Go.RowKit
open Pa
set_option linter.unusedVariables false
set_option linter.unusedSimpArgs false

/-- Two values own no block together. -/
def Apart (u v : Value) : Prop := ∀ g, u.ownBlock = some g → v.ownBlock ≠ some g
theorem Apart.l {u v : Value} (h : Apart u v) : u.ownBlock = none ∨ u.ownBlock ≠ v.ownBlock := by
  cases hu : u.ownBlock with
  | none => exact .inl rfl
  | some g => exact .inr (fun e => h g hu e.symm)
theorem Apart.r {u v : Value} (h : Apart u v) : v.ownBlock = none ∨ v.ownBlock ≠ u.ownBlock := by
  cases hv : v.ownBlock with
  | none => exact .inl rfl
  | some g => exact .inr (fun e => h g e.symm hv)
theorem Apart.none (u : Value) : Apart u (.slice Option.none 0 0) := fun g _ h => by cases h
abbrev nilV : Value := .slice Option.none 0 0

/-- An act, and the two slices in it. -/
abbrev AE := TAct × Value × Value
def acell (q : AE) : List Value := [.int .i64 q.1.kind, .int .i32 q.1.rune, .int .u8 q.1.mark, .int .u8 q.1.final, q.2.1, q.2.2]
theorem acell_len (L : List AE) : (L.flatMap acell).length = L.length * 6 := by
  induction L with
  | nil => rfl
  | cons q L ih => simp only [List.flatMap_cons, List.length_append, List.length_cons, ih, acell, List.length_nil]; omega
theorem acell_at : ∀ (L : List AE) (i : Nat) (q : AE), L[i]? = some q → ∀ j, j < 6 → (L.flatMap acell)[i * 6 + j]? = (acell q)[j]?
  | [], i, q, h, j, hj => by simp at h
  | p :: L, 0, q, h, j, hj => by
    simp at h
    subst h
    rw [List.flatMap_cons, Nat.zero_mul, Nat.zero_add, List.getElem?_append_left (by simp [acell]; omega)]
  | p :: L, i + 1, q, h, j, hj => by
    rw [List.flatMap_cons, List.getElem?_append_right (by simp [acell]; omega)]
    have : (i + 1) * 6 + j - (acell p).length = i * 6 + j := by simp [acell]; omega
    rw [this]
    exact acell_at L i q (by simpa using h) j hj
/-- The slice v holds the acts L; it and their slices are the call's own, from 'base' on. -/
structure Acs (w : World) (base : Nat) (v : Value) (L : List AE) : Prop where
  row : OwnR w base 25 6 v L.length (L.flatMap acell)
  par : ∀ q ∈ L, OwnI w base 3 .i64 q.2.1 q.1.params
  txt : ∀ q ∈ L, OwnI w base 5 .u8 q.2.2 q.1.text
  apart : ∀ q ∈ L, Apart v q.2.1 ∧ Apart v q.2.2
/-- None of them lies in block g. -/
def Clear (v : Value) (L : List AE) (g : Nat) : Prop := v.ownBlock ≠ some g ∧ ∀ q ∈ L, q.2.1.ownBlock ≠ some g ∧ q.2.2.ownBlock ≠ some g
theorem Acs.nil (w : World) (base : Nat) : Acs w base nilV [] := ⟨OwnR.nil _ _ _ _, (fun _ h => by cases h), (fun _ h => by cases h), (fun _ h => by cases h)⟩
theorem Acs.under {w w' : World} {base : Nat} {v : Value} {L : List AE} (h : Acs w base v L) (hb : Below w.heap.size w w') : Acs w' base v L :=
  ⟨h.row.under hb, fun q hq => (h.par q hq).under hb, fun q hq => (h.txt q hq).under hb, h.apart⟩
theorem Acs.mono {w : World} {base base' : Nat} {v : Value} {L : List AE} (h : Acs w base v L) (hb : base' ≤ base) : Acs w base' v L :=
  ⟨OwnR.mono h.row hb, fun q hq => (h.par q hq).mono hb, fun q hq => (h.txt q hq).mono hb, h.apart⟩
theorem Acs.keeps {S : Nat → Prop} {w w' : World} {base : Nat} {v : Value} {L : List AE} (h : Acs w base v L) (k : Keeps S w w') (hS : ∀ g, S g → Clear v L g) : Acs w' base v L :=
  ⟨k.row h.row (fun b hb e => (hS b e).1 hb), fun q hq => k.own (h.par q hq) (fun b hb e => ((hS b e).2 q hq).1 hb), fun q hq => k.own (h.txt q hq) (fun b hb e => ((hS b e).2 q hq).2 hb), h.apart⟩
theorem Acs.clear_low {w : World} {base : Nat} {v : Value} {L : List AE} (h : Acs w base v L) {g : Nat} (hg : g < base) : Clear v L g :=
  ⟨fun e => by have := (OwnR.blocks h.row g e).1; omega, fun q hq => ⟨fun e => by have := ((h.par q hq).lt g e).1; omega, fun e => by have := ((h.txt q hq).lt g e).1; omega⟩⟩
theorem Acs.clear_high {w : World} {base : Nat} {v : Value} {L : List AE} (h : Acs w base v L) {g : Nat} (hg : w.heap.size ≤ g) : Clear v L g :=
  ⟨fun e => by have := (OwnR.blocks h.row g e).2; omega, fun q hq => ⟨fun e => by have := ((h.par q hq).lt g e).2; omega, fun e => by have := ((h.txt q hq).lt g e).2; omega⟩⟩
theorem oneCell_act (q : AE) (h1 : ∃ B n c, q.2.1 = .slice B n c) (h2 : ∃ B n c, q.2.2 = .slice B n c) : ∀ u ∈ acell q, u.oneCell' = true := by
  intro u hu
  obtain ⟨_, _, _, e1⟩ := h1
  obtain ⟨_, _, _, e2⟩ := h2
  simp [acell] at hu
  rcases hu with rfl | rfl | rfl | rfl | rfl | rfl
  · rfl
  · rfl
  · rfl
  · rfl
  · rw [e1]; rfl
  · rw [e2]; rfl
theorem OwnI.isSlice {w : World} {base : Nat} {e : TypeId} {k : IntKind} {v : Value} {zs : List Int} (h : OwnI w base e k v zs) : ∃ B n c, v = .slice B n c := by
  obtain ⟨A, c, e, _⟩ := h.form
  exact ⟨A, _, c, e⟩
theorem Acs.one {w : World} {base : Nat} {v : Value} {L : List AE} (h : Acs w base v L) : ∀ u ∈ L.flatMap acell, u.oneCell' = true := by
  intro u hu
  obtain ⟨q, hq, hu⟩ := List.mem_flatMap.1 hu
  exact oneCell_act q (h.par q hq).isSlice (h.txt q hq).isSlice u hu
/-- More acts behind: they lie apart from the row that they are appended to. -/
theorem Acs.app {w w' : World} {base : Nat} {v v' : Value} {L M : List AE} (h : Acs w base v L) (hpM : ∀ q ∈ M, OwnI w base 3 .i64 q.2.1 q.1.params) (htM : ∀ q ∈ M, OwnI w base 5 .u8 q.2.2 q.1.text) (hM : ∀ q ∈ M, Apart v q.2.1 ∧ Apart v q.2.2)
    (ha : AppedR w w' base 25 6 v v' (L ++ M).length ((L ++ M).flatMap acell)) : Acs w' base v' (L ++ M) := by
  have hfresh : ∀ u : Value, (∀ x, u.ownBlock = some x → x < w.heap.size) → Apart v u → Apart v' u := fun u hu ha' x hx hux => by
    rcases ha.where_ with e | e
    · rw [hx] at e; exact ha' x e.symm hux
    · rw [hx] at e; injection e with e; have := hu x hux; omega
  refine ⟨ha.own, fun q hq => ?_, fun q hq => ?_, fun q hq => ?_⟩
  · rcases List.mem_append.1 hq with hq | hq
    · exact (h.par q hq).only ha.only (h.apart q hq).1.r
    · exact (hpM q hq).only ha.only (hM q hq).1.r
  · rcases List.mem_append.1 hq with hq | hq
    · exact (h.txt q hq).only ha.only (h.apart q hq).2.r
    · exact (htM q hq).only ha.only (hM q hq).2.r
  · rcases List.mem_append.1 hq with hq | hq
    · exact ⟨hfresh _ (fun x hx => ((h.par q hq).lt x hx).2) (h.apart q hq).1, hfresh _ (fun x hx => ((h.txt q hq).lt x hx).2) (h.apart q hq).2⟩
    · exact ⟨hfresh _ (fun x hx => ((hpM q hq).lt x hx).2) (hM q hq).1, hfresh _ (fun x hx => ((htM q hq).lt x hx).2) (hM q hq).2⟩
/-- A slice's literal of one act. -/
theorem Acs.lit1 (w : World) (base : Nat) (q : AE) (hb : base ≤ w.heap.size) (hp : OwnI w base 3 .i64 q.2.1 q.1.params) (ht : OwnI w base 5 .u8 q.2.2 q.1.text) : Acs (w.alloc (.cells (acell q).toArray 25)) base (.slice (some ⟨w.heap.size, 0, Option.none⟩) 1 1) [q] := by
  refine ⟨⟨by simp [acell], .inr ⟨w.heap.size, 1, (acell q).toArray, rfl, hb, heap_alloc_new w _, Nat.le_refl _, by simp [maxLen], by simp [acell], by simp [acell]⟩⟩, fun p hp' => ?_, fun p hp' => ?_, fun p hp' => ?_⟩
  all_goals obtain rfl := List.mem_singleton.1 hp'
  · exact hp.alloc _
  · exact ht.alloc _
  · exact ⟨fun g hg e => by simp [Value.ownBlock] at hg; have := (hp.lt g e).2; omega, fun g hg e => by simp [Value.ownBlock] at hg; have := (ht.lt g e).2; omega⟩

def printE (r : Int) : AE := (print r, nilV, nilV)
set_option maxRecDepth 100000 in
set_option maxHeartbeats 1000000 in
theorem prints_any (A : Option Addr) (n c : Nat) (l : List Int) (w : World) (hn : n = l.length) (hx : ReadI w .i32 A l) (hl : l.length ≤ 1000) :
    Calls Tryd.prog 24 #[.slice A n c] w fun e w' => ∃ A' c' L, e = .returned (.slice A' L.length c') ∧ L.map (·.1) = prints l ∧ Acs w' w.heap.size (.slice A' L.length c') L ∧ Below w.heap.size w w' := by
  subst hn
  have HX := Lib.hid hx
  clear hx
  go_enter Tryd.func24, Tryd.ntmps24
  go_wp2_with fail
  go_loopw [3, 8] (fun v i wr => ∃ (k : Nat) (A' : Option Addr) (c' : Nat) (L : List AE), k ≤ l.length ∧ i = .int .i64 k ∧ v = .slice A' L.length c' ∧ L.length = k ∧ L.map (·.1) = prints (l.take k) ∧ Acs wr w.heap.size (.slice A' L.length c') L ∧ Below w.heap.size w wr) (fun _ i _ => l.length - (intOf i).toNat)
  case atStart => exact ⟨0, Option.none, 0, [], Nat.zero_le _, rfl, rfl, rfl, rfl, Acs.nil _ _, Below.refl _ _⟩
  case round =>
    obtain ⟨k, A1, c1, L, hk, rfl, rfl, hL, hmap, hA, hbel⟩ := hrel
    have HLK := Lib.hid hL
    have HMAP := Lib.hid hmap
    have HA := Lib.hid hA
    have HB := Lib.hid hbel
    have hzb := hbel.size
    have hl1 : L.length ≤ 1000 := by omega
    clear hL hmap hA hbel
    by_cases hlt : k < l.length
    · obtain ⟨b, o, rfl, hc⟩ := (HX.out.under HB.out) (by rintro rfl; simp at hlt)
      have hck := hc k hlt
      obtain ⟨r, hr⟩ : ∃ r, r = l.getD k 0 := ⟨_, rfl⟩
      rw [← hr] at hck
      have HRR := Lib.hid hr
      have i1 : (k : Int) < (l.length : Int) := by omega
      have hA3 := HA.out.under (below_alloc (Below.refl _ _) (.cells (acell (printE r)).toArray 25))
      have hB3 := below_alloc HB.out (.cells (acell (printE r)).toArray 25)
      have HA3 := Lib.hid hA3
      have HB3 := Lib.hid hB3
      clear hc hr hA3 hB3
      go_wp2_with (at_builtin; first
        | (refine wpList_append_cells _ rfl (.tmp 12) (.tmp 15) 35 25 6 64 rfl Tryd.underlying35 (by kernel_rfl) (by omega) (by omega) w.heap.size (.slice A1 L.length c1) L.length (L.flatMap acell) rfl HA3.out.row (some ⟨wr.heap.size, 0, Option.none⟩) 1 1 (acell (printE r)) rfl (Blk.read (Blk.new _ _ _)) rfl (oneCell_act (printE r) ⟨_, _, _, rfl⟩ ⟨_, _, _, rfl⟩) (L.length + 1) rfl _ rfl (by omega) (by simp; omega) ?_; intro A2 c2 w2 hap; have HAP := Lib.hid hap; clear hap))
      have hlen2 : (L ++ [printE r]).length = L.length + 1 := by simp
      have hac : Acs w2 w.heap.size (.slice A2 (L.length + 1) c2) (L ++ [printE r]) :=
        HA3.out.app (M := [printE r]) (fun q hq => by rw [List.mem_singleton.1 hq]; exact OwnI.nil _ _ _ _) (fun q hq => by rw [List.mem_singleton.1 hq]; exact OwnI.nil _ _ _ _) (fun q hq => by rw [List.mem_singleton.1 hq]; exact ⟨Apart.none _, Apart.none _⟩) (by
          have h := HAP.out
          rw [hlen2, List.flatMap_append]
          simp only [List.flatMap_cons, List.flatMap_nil, List.append_nil]
          exact h)
      have hb2 := below_of_only HB3.out HAP.out.only HB3.out.size (fun x hx => (OwnR.blocks HA3.out.row x hx).1)
      have hmap2 : (L ++ [printE r]).map (·.1) = prints (l.take (k + 1)) := by
        rw [List.map_append, HMAP.out, List.take_succ_eq_append_getElem hlt]
        have : r = l[k] := by rw [HRR.out, List.getD_eq_getElem?_getD, List.getElem?_eq_getElem hlt]; rfl
        unfold prints
        rw [List.map_append, this]
        rfl
      have HAC := Lib.hid hac
      have HB2 := Lib.hid hb2
      have HM2 := Lib.hid hmap2
      clear hac hb2 hmap2
      go_wp2_with fail
      go_roundw
      case rel => exact ⟨k + 1, A2, c2, L ++ [printE r], by omega, by go_num, by rw [hlen2], by rw [hlen2, HLK.out], HM2.out, by rw [hlen2]; exact HAC.out, HB2.out⟩
      case measure => simp [intOf]; omega
    · obtain rfl : k = l.length := by omega
      rw [List.take_length] at HMAP
      go_wp2_with fail
      go_ret
      exact ⟨A1, c1, L, rfl, HMAP.out, HA.out, HB.out⟩
end Go.Proofs.YtijjnpegokfidaaDoor
