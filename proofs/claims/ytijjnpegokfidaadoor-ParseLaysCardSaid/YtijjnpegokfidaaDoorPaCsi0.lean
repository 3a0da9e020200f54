/- strconv.AppendInt on a row that is built; what the walks of control sequences have in common. -/
import Derived.Test.YtijjnpegokfidaaDoorPaLay
import Derived.Test.YtijjnpegokfidaaDoorShelfA
namespace Go.Proofs.YtijjnpegokfidaaDoor
open Go.RowKit
open Pa
set_option linter.unusedVariables false
set_option linter.unusedSimpArgs false

/-- The table of tens, as Go's library has it. -/
def Pow (w : World) : Prop := Lib.TabIs Tryd.prog w "internal/strconv.uint64pow10" .u64 Lib.pow10Tab
theorem Pow.under {w w' : World} (h : Pow w) (hb : Below w.heap.size w w') : Pow w' := Lib.tabBelow_of_tabIs h w' hb
theorem byteCells_dec (u : Nat) : Lib.byteCells (Lib.decDigits u) = (dec u).map (Value.int .u8) := by
  rw [← dec_digits u]
  unfold Lib.byteCells
  rw [List.map_map]
  rfl
theorem appInt_any (w0 w : World) (v : Value) (zs : List Int) (g : Nat) (T : TypeId) (cs : Array Value) (h : Bld w0 w 5 .u8 v zs g T cs) (hT : T ≠ 5) (hP : Pow w0) (i : Int) (h0 : 0 ≤ i) (h1 : i ≤ 9999) (hl : zs.length ≤ 1000) :
    Calls Tryd.prog 22 #[v, .int .i64 i, .int .i64 10] w fun e w' => ∃ A c, e = .returned (.slice A (zs.length + (dec i.toNat).length) c) ∧ Bld w0 w' 5 .u8 (.slice A (zs.length + (dec i.toNat).length) c) (zs ++ dec i.toNat) g T cs := by
  have hi : Lib.itoa i = Lib.decDigits i.toNat := by unfold Lib.itoa; rw [if_neg (by omega)]
  have hlen : (Lib.decDigits i.toNat).length = (dec i.toNat).length := by rw [← dec_digits, List.length_map]
  have hc := Tryd.strconv_AppendInt_10 w0.heap.size zs.length i (by omega) (by omega) v (zs.map (Value.int .u8)) w h.own h.bel.size (by omega) ((Lib.tabBelow_of_tabIs hP).on h.bel)
  refine hc.mono ?_
  rintro e w' ⟨v', rfl, ho, hb, hk⟩
  rw [hi, hlen, byteCells_dec, ← List.map_append] at ho
  have ho' : OwnI w' w0.heap.size 5 .u8 v' (zs ++ dec i.toNat) := by
    unfold OwnI
    rw [List.length_append]
    exact ho
  obtain ⟨A, c, e1, _⟩ := ho'.form
  rw [List.length_append] at e1
  subst e1
  have hblk : Blk w' g T cs := hk g _ h.blk (by simp) (fun c fz x => by injection x with x1 x2; exact hT x2)
  refine ⟨A, c, rfl, ho', ⟨hb.os.trans h.bel.os, hb.tape.trans h.bel.tape, hb.output.trans h.bel.output, Nat.le_trans h.bel.size hb.size, fun i hi => (hb.block i hi).trans (h.bel.block i hi)⟩, hblk, fun x => ?_⟩
  rcases ho.2 with ⟨h3, _⟩ | ⟨g', cap, cur, hv, _, hh, _⟩
  · rw [h3] at x; cases x
  · rw [hv] at x
    simp [Value.ownBlock] at x
    subst x
    rw [show w'.heap[g']? = some (.cells cs T (0, 0)) from hblk] at hh
    injection hh with hh
    injection hh with _ hh
    exact hT hh
theorem ok4_iff (r m f : Int) (p t : List Int) : LayOk ⟨4, r, m, f, p, t⟩ ↔ ((r = 0 ∧ ((t.length : Nat) : Int) = 0 ∧ 64 ≤ f ∧ f ≤ 126 ∧ ((p.length : Nat) : Int) ≤ 16 ∧ (m = 0 ∨ (60 ≤ m ∧ m ≤ 63) ∨ (32 ≤ m ∧ m ≤ 47))) ∧ ∀ n ∈ p, 0 ≤ n ∧ n ≤ 9999) := by
  unfold LayOk
  constructor
  · rintro (⟨k, _⟩ | ⟨k, _⟩ | ⟨k, _⟩ | ⟨_, h⟩ | ⟨k, _⟩)
    · simp at k
    · simp at k
    · simp at k
    · refine ⟨⟨h.rune, len0.2 h.text, h.final.1, h.final.2, by have := h.plen; simp only at this; omega, ?_⟩, h.params⟩
      rcases h.mark with h | h | h
      · exact .inl h
      · refine .inr (.inl ?_)
        unfold firstM at h
        simpa using h
      · exact .inr (.inr h)
    · simp at k
  · rintro ⟨⟨h1, h2, h3, h4, h5, h6⟩, h7⟩
    refine .inr (.inr (.inr (.inl ⟨rfl, h1, len0.1 h2, ⟨h3, h4⟩, ?_, by simp only; omega, h7⟩)))
    rcases h6 with h | h | h
    · exact .inl h
    · refine .inr (.inl ?_)
      unfold firstM
      simpa using h
    · exact .inr (.inr h)
/-- A row that is built: its length is told apart. -/
def Row (w0 w : World) (v : Value) (zs : List Int) (cs : Array Value) : Prop := ∃ A n c, v = .slice A n c ∧ n = zs.length ∧ Bld w0 w 5 .u8 v zs w0.heap.size 25 cs
theorem numsB_take (l : List Int) (k : Nat) (h : k < l.length) (hb : 0 < k) : numsB (l.take (k + 1)) = numsB (l.take k) ++ 59 :: dec (l.getD k 0).toNat := by
  rw [take_snoc l k h, numsB_snoc]
  intro e
  have := congrArg List.length e
  rw [List.length_take, List.length_nil] at this
  omega
theorem numsB_take0 (l : List Int) (h : 0 < l.length) : numsB (l.take (0 + 1)) = dec (l.getD 0 0).toNat := by
  rw [take_snoc l 0 h, List.take_zero, List.nil_append, numsB_one]
theorem numsB_bd (l : List Int) (k : Nat) (hl : l.length ≤ 16) (h : ∀ x ∈ l.take k, 0 ≤ x ∧ x ≤ 9999) : (numsB (l.take k)).length ≤ 80 := by
  have := numsB_len (l.take k) h
  simp at this
  omega
end Go.Proofs.YtijjnpegokfidaaDoor
