/- The walk of the joiner's Take: what is refused. -/
import Derived.Test.YtpoobdccmaiaiaaFrJ
import Derived.BigQuiet
import Derived.Deep.QuietTactic
namespace Go.Proofs.Ytpoobdccmaiaiaa
open Go.RowKit
open Frag
set_option linter.unusedVariables false
set_option linter.unusedSimpArgs false

abbrev partV (p : PV) (A : Option Addr) (n c : Nat) : Value := .agg #[.int .u32 p.id, .int .i64 p.ix, .int .i64 p.ct, .slice A n c]
abbrev partC (p : PV) (A : Option Addr) (n c : Nat) : Array Value := #[.int .u32 p.id, .int .i64 p.ix, .int .i64 p.ct, .slice A n c]
/-- What a call of Take answers and leaves. -/
def TakeEnd (w : World) (B gj mb : Nat) (a : Ans × JS) (e : Ending) (w' : World) : Prop :=
  ∃ A' c' E', e = .returned (.tuple #[.slice A' a.1.out.length c', .bool a.1.ok, .int .i64 a.1.er]) ∧ OwnI w' w.heap.size 5 .u8 (.slice A' a.1.out.length c') a.1.out ∧ Jn w' B gj mb a.2 E' ∧ Keeps (fun i => i = gj ∨ i = mb) w w'
/-- .. and each entry of the map is an old one, or lies in new memory. -/
def TakeEnd2 (w : World) (B gj mb : Nat) (E : List (Int × Value × List Int)) (a : Ans × JS) (e : Ending) (w' : World) : Prop :=
  ∃ A' c' E', e = .returned (.tuple #[.slice A' a.1.out.length c', .bool a.1.ok, .int .i64 a.1.er]) ∧ OwnI w' w.heap.size 5 .u8 (.slice A' a.1.out.length c') a.1.out ∧ Jn w' B gj mb a.2 E' ∧ Keeps (fun i => i = gj ∨ i = mb) w w' ∧ ∀ x ∈ E', x ∈ E ∨ ∀ g, x.2.1.ownBlock = some g → w.heap.size ≤ g
theorem may_dec (p : PV) (A : Option Addr) (n c : Nat) (w : World) (hn : n = p.bs.length) (hl : n ≤ 9223372036854775807) (r : Bool) (hr : mayP p = r) :
    Calls Try.prog 16 #[partV p A n c] w fun e w' => e = .returned (.bool r) ∧ Below w.heap.size w w' := by
  subst hn hr
  exact may_any p.id p.ix p.ct A _ c w hl

set_option maxRecDepth 100000 in
theorem take_nil (p : PV) (A : Option Addr) (n c : Nat) (w : World) :
    Calls Try.prog 14 #[.pointer none, partV p A n c] w fun e w' => e = .returned (.tuple #[.slice none 0 0, .bool false, .int .i64 1]) ∧ Below w.heap.size w w' := by
  go_enter Try.func14, Try.ntmps14
  go_wp2_with fail
  go_ret3
  exact ⟨rfl, below_alloc (Below.refl _ _) _⟩

set_option maxRecDepth 100000 in
theorem take_not (p : PV) (A : Option Addr) (n c : Nat) (w : World) (B gj mb : Nat) (s : JS) (E : List (Int × Value × List Int)) (hJ : Jn w B gj mb s E) (hn : n = p.bs.length) (hl : n ≤ 9223372036854775807) (hm : mayP p = false) :
    Calls Try.prog 14 #[.pointer (some ⟨gj, 0, none⟩), partV p A n c] w (TakeEnd2 w B gj mb E (⟨[], false, 1⟩, s)) := by
  have HJ := Lib.hid hJ
  have HN := Lib.hid hn
  have HM := Lib.hid hm
  clear hJ hn hm
  go_enter Try.func14, Try.ntmps14
  go_wp2_with fail
  refine (may_dec p A n c _ HN.out hl false HM.out).mono ?_
  rintro e w2 ⟨rfl, hb2⟩
  have hb : Below w.heap.size w w2 := (below_alloc (Below.refl _ _) _).trans (hb2.mono (by simp))
  have HB := Lib.hid hb
  clear hb2 hb
  go_wp2_with fail
  go_ret3
  exact ⟨none, 0, E, rfl, OwnI.nil _ _ _ _, HJ.out.under HB.out, Keeps.under HB.out _, fun _ h => .inl h⟩

set_option maxRecDepth 100000 in
theorem take_old (p : PV) (A : Option Addr) (n c : Nat) (w : World) (B gj mb : Nat) (s : JS) (E : List (Int × Value × List Int)) (hJ : Jn w B gj mb s E) (hn : n = p.bs.length) (hl : n ≤ 9223372036854775807) (hm : mayP p = true) (ha : s.any = true) (ho : p.id < s.id) :
    Calls Try.prog 14 #[.pointer (some ⟨gj, 0, none⟩), partV p A n c] w (TakeEnd2 w B gj mb E (⟨[], false, 16⟩, s)) := by
  obtain ⟨any, done, id, ct, es⟩ := s
  simp only at ha ho
  subst ha
  have HJ := Lib.hid hJ
  have HN := Lib.hid hn
  have HM := Lib.hid hm
  clear hJ hn hm
  go_enter Try.func14, Try.ntmps14
  go_wp2_with fail
  refine (may_dec p A n c _ HN.out hl true HM.out).mono ?_
  rintro e w2 ⟨rfl, hb2⟩
  have hb : Below w.heap.size w w2 := (below_alloc (Below.refl _ _) _).trans (hb2.mono (by simp))
  have hP : Blk w2 w.heap.size 34 (partC p A n c) := (Blk.new w _ _).under hb2
  have hJ2 := HJ.out.under hb
  have HJ2 := Lib.hid hJ2
  have p0 : w2.cell? ⟨w.heap.size, 0, none⟩ = some (.int .u32 p.id) := hP.cell 0
  have c0 : w2.cell? ⟨gj, 0, none⟩ = some (.bool true) := hJ2.blk.cell 0
  have c2 : w2.cell? ⟨gj, 2, none⟩ = some (.int .u32 id) := hJ2.blk.cell 2
  have d0 : decide (p.id < id) = true := decide_eq_true ho
  have HB := Lib.hid hb
  clear hb2 hb hP hJ2
  go_wp2_with fail
  go_quiet (fail)
  go_wp2_with fail
  go_ret3
  exact ⟨none, 0, E, rfl, OwnI.nil _ _ _ _, HJ2.out.under (below_drewN (Below.refl _ _) _), (Keeps.under HB.out _).drewN _, fun _ h => .inl h⟩
set_option maxRecDepth 100000 in
theorem take_form (p : PV) (A : Option Addr) (n c : Nat) (w : World) (B gj mb : Nat) (s : JS) (E : List (Int × Value × List Int)) (hJ : Jn w B gj mb s E) (hn : n = p.bs.length) (hl : n ≤ 9223372036854775807) (hm : mayP p = true) (ha : s.any = true) (ho : p.id = s.id) (hc : p.ct ≠ s.ct) :
    Calls Try.prog 14 #[.pointer (some ⟨gj, 0, none⟩), partV p A n c] w (TakeEnd2 w B gj mb E (⟨[], false, 3⟩, s)) := by
  obtain ⟨any, done, id, ct, es⟩ := s
  simp only at ha ho hc
  subst ha ho
  have HJ := Lib.hid hJ
  have HN := Lib.hid hn
  have HM := Lib.hid hm
  clear hJ hn hm
  go_enter Try.func14, Try.ntmps14
  go_wp2_with fail
  refine (may_dec p A n c _ HN.out hl true HM.out).mono ?_
  rintro e w2 ⟨rfl, hb2⟩
  have hb : Below w.heap.size w w2 := (below_alloc (Below.refl _ _) _).trans (hb2.mono (by simp))
  have hP : Blk w2 w.heap.size 34 (partC p A n c) := (Blk.new w _ _).under hb2
  have hJ2 := HJ.out.under hb
  have HJ2 := Lib.hid hJ2
  have p0 : w2.cell? ⟨w.heap.size, 0, none⟩ = some (.int .u32 p.id) := hP.cell 0
  have p2 : w2.cell? ⟨w.heap.size, 2, none⟩ = some (.int .i64 p.ct) := hP.cell 2
  have c0 : w2.cell? ⟨gj, 0, none⟩ = some (.bool true) := hJ2.blk.cell 0
  have c2 : w2.cell? ⟨gj, 2, none⟩ = some (.int .u32 p.id) := hJ2.blk.cell 2
  have c3 : w2.cell? ⟨gj, 3, none⟩ = some (.int .i64 ct) := hJ2.blk.cell 3
  have d0 : decide (p.id < p.id) = false := decide_eq_false (by omega)
  have d1 : (p.ct != ct) = true := by simp [hc]
  have HB := Lib.hid hb
  clear hb2 hb hP hJ2 hc
  go_wp2_with fail
  go_quiet (fail)
  go_wp2_with fail
  go_quiet (fail)
  go_wp2_with fail
  go_quiet (fail)
  go_wp2_with fail
  go_ret3
  exact ⟨none, 0, E, rfl, OwnI.nil _ _ _ _, HJ2.out.under (by repeat first | exact Below.refl _ _ | refine below_drewN ?_ _), by repeat first | exact Keeps.under HB.out _ | refine Keeps.drewN ?_ _, fun _ h => .inl h⟩
end Go.Proofs.Ytpoobdccmaiaiaa
