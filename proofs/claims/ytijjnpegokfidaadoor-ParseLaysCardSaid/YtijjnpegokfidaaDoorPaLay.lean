/- parse.Lay what its walks have in common. -/
import Derived.Test.YtijjnpegokfidaaDoorPaFixed
import Derived.Test.YtijjnpegokfidaaDoorPaRef
import Derived.Test.YtijjnpegokfidaaDoorPaLayM
import Derived.Test.YtijjnpegokfidaaDoorBld
import Derived.BigGuardPart
namespace Go.Proofs.YtijjnpegokfidaaDoor
open Go.RowKit
open Pa
set_option linter.unusedVariables false
set_option linter.unusedSimpArgs false

/-- An act's bytes, or an error. -/
def LayEnd (w : World) (t : TAct) (e : Ending) (w' : World) : Prop :=
  (LayOk t ∧ ∃ A c, e = .returned (.tuple #[.slice A (layB t).length c, .int .i64 0]) ∧ ReadI w' .u8 A (layB t) ∧ Below w.heap.size w w') ∨
  (¬ LayOk t ∧ e = .returned (.tuple #[nilV, .int .i64 1]) ∧ Below w.heap.size w w')
abbrev actV (t : TAct) (P X : Option Addr) (pc xc : Nat) : Value := .agg #[.int .i64 t.kind, .int .i32 t.rune, .int .u8 t.mark, .int .u8 t.final, .slice P t.params.length pc, .slice X t.text.length xc]
/-- What a number of each field's type keeps to. -/
structure Fits (t : TAct) : Prop where
  rune : -2147483648 ≤ t.rune ∧ t.rune ≤ 2147483647
  mark : 0 ≤ t.mark ∧ t.mark < 256
  final : 0 ≤ t.final ∧ t.final < 256
  params : ∀ n ∈ t.params, -9223372036854775808 ≤ n ∧ n ≤ 9223372036854775807
  text : ∀ x ∈ t.text, 0 ≤ x ∧ x < 256
  plen : t.params.length ≤ 1000
  tlen : t.text.length ≤ 16384
theorem LayEnd.no {w w' : World} {t : TAct} (h : ¬ LayOk t) (hb : Below w.heap.size w w') : LayEnd w t (.returned (.tuple #[.slice none 0 0, .int .i64 1])) w' := .inr ⟨h, rfl, hb⟩
theorem LayEnd.yes {w w' : World} {t : TAct} {A : Option Addr} {n c : Nat} (h : LayOk t) (hn : n = (layB t).length) (hr : ReadI w' .u8 A (layB t)) (hb : Below w.heap.size w w') : LayEnd w t (.returned (.tuple #[.slice A n c, .int .i64 0])) w' := by
  subst hn
  exact .inl ⟨h, A, c, rfl, hr, hb⟩
theorem LayEnd.lit {w : World} {t : TAct} {o : Obj} {cs : Array Value} {n : Nat} (zs : List Int) (h : LayOk t) (hz : layB t = zs) (hc : cs = (zs.map (Value.int .u8)).toArray) (hn : n = zs.length) :
    LayEnd w t (.returned (.tuple #[.slice (some ⟨w.heap.size + 1, 0, none⟩) n n, .int .i64 0])) ((w.alloc o).alloc (.cells cs 5)) :=
  LayEnd.yes h (by rw [hz]; exact hn) (by rw [hz]; exact litI_read (w.alloc o) (w.heap.size + 1) (by simp) 5 .u8 zs cs hc (0, 0)) (below_alloc (below_alloc (Below.refl _ _) _) _)
theorem LayEnd.lit2 {w : World} {t : TAct} {o o2 : Obj} {cs : Array Value} {n : Nat} (zs : List Int) (h : LayOk t) (hz : layB t = zs) (hc : cs = (zs.map (Value.int .u8)).toArray) (hn : n = zs.length) :
    LayEnd w t (.returned (.tuple #[.slice (some ⟨w.heap.size + 1 + 1, 0, none⟩) n n, .int .i64 0])) (((w.alloc o).alloc o2).alloc (.cells cs 5)) :=
  LayEnd.yes h (by rw [hz]; exact hn) (by rw [hz]; exact litI_read ((w.alloc o).alloc o2) (w.heap.size + 1 + 1) (by simp) 5 .u8 zs cs hc (0, 0)) (below_alloc (below_alloc (below_alloc (Below.refl _ _) _) _) _)
theorem len0 {l : List Int} : ((l.length : Nat) : Int) = 0 ↔ l = [] := by
  rw [← List.length_eq_zero_iff]
  omega
theorem ok2_iff (r m f : Int) (p t : List Int) : LayOk ⟨2, r, m, f, p, t⟩ ↔ (r = 0 ∧ m = 0 ∧ ((p.length : Nat) : Int) = 0 ∧ ((t.length : Nat) : Int) = 0 ∧ f < 32 ∧ f ≠ 24 ∧ f ≠ 26 ∧ f ≠ 27) := by
  unfold LayOk
  constructor
  · rintro (⟨k, _⟩ | ⟨_, h⟩ | ⟨k, _⟩ | ⟨k, _⟩ | ⟨k, _⟩)
    · simp at k
    · exact ⟨h.rune, h.mark, len0.2 h.params, len0.2 h.text, h.final⟩
    · simp at k
    · simp at k
    · simp at k
  · rintro ⟨h1, h2, h3, h4, h5⟩
    exact .inr (.inl ⟨rfl, h1, h2, len0.1 h3, len0.1 h4, h5⟩)
theorem ok3_iff (r m f : Int) (p t : List Int) : LayOk ⟨3, r, m, f, p, t⟩ ↔ (r = 0 ∧ ((p.length : Nat) : Int) = 0 ∧ ((t.length : Nat) : Int) = 0 ∧ 48 ≤ f ∧ f ≤ 126 ∧ ((m = 0 ∧ special f = false) ∨ (32 ≤ m ∧ m ≤ 47))) := by
  unfold LayOk
  constructor
  · rintro (⟨k, _⟩ | ⟨k, _⟩ | ⟨_, h⟩ | ⟨k, _⟩ | ⟨k, _⟩)
    · simp at k
    · simp at k
    · exact ⟨h.rune, len0.2 h.params, len0.2 h.text, h.final.1, h.final.2, h.mark⟩
    · simp at k
    · simp at k
  · rintro ⟨h1, h2, h3, h4, h5, h6⟩
    exact .inr (.inr (.inl ⟨rfl, h1, len0.1 h2, len0.1 h3, ⟨h4, h5⟩, h6⟩))
theorem layB_3a (r m f : Int) (p t : List Int) (h : m = 0) : layB ⟨3, r, m, f, p, t⟩ = [27, f] := by
  unfold layB
  simp [h]
theorem layB_3b (r m f : Int) (p t : List Int) (h : m ≠ 0) : layB ⟨3, r, m, f, p, t⟩ = [27, m, f] := by
  unfold layB
  simp [h]
theorem ok3_not {r m f : Int} {p t : List Int} (h : ¬ (r = 0 ∧ ((p.length : Nat) : Int) = 0 ∧ ((t.length : Nat) : Int) = 0 ∧ 48 ≤ f ∧ f ≤ 126 ∧ (m = 0 ∨ (32 ≤ m ∧ m ≤ 47)))) : ¬ LayOk ⟨3, r, m, f, p, t⟩ := fun k => by
  obtain ⟨a1, a2, a3, a4, a5, a6⟩ := (ok3_iff _ _ _ _ _).1 k
  rcases a6 with ⟨b, _⟩ | b
  · exact h ⟨a1, a2, a3, a4, a5, .inl b⟩
  · exact h ⟨a1, a2, a3, a4, a5, .inr b⟩
theorem ok3_not2 {r m f : Int} {p t : List Int} (hs : special f = true) (hm : m = 0) : ¬ LayOk ⟨3, r, m, f, p, t⟩ := fun k => by
  obtain ⟨_, _, _, _, _, a6⟩ := (ok3_iff _ _ _ _ _).1 k
  rcases a6 with ⟨_, b⟩ | b
  · rw [hs] at b; cases b
  · omega
theorem special_in : ∀ n : Nat, n < 256 → (decide (Lib.indexByte [91, 93, 80, 88, 94, 95] n.toUInt8 < 0)) = !special n := by
  decide +kernel
theorem special_iff (b : Int) (hb : 0 ≤ b ∧ b < 256) : (decide (Lib.indexByte [91, 93, 80, 88, 94, 95] b.toNat.toUInt8 < 0)) = !special b := by
  obtain ⟨n, rfl⟩ := Int.eq_ofNat_of_zero_le hb.1
  rw [Int.toNat_natCast]
  exact special_in n (by omega)

end Go.Proofs.YtijjnpegokfidaaDoor
