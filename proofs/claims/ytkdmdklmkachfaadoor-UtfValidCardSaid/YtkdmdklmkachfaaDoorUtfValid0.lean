/- The walk of utf.Valid. -/
import Derived.Test.YtkdmdklmkachfaaDoorUtfEnc
import Derived.Test.YtkdmdklmkachfaaDoorUtfVal
import Derived.Laws.RangeAny
namespace Go.Proofs.YtkdmdklmkachfaaDoor
open Go.RowKit
open Utf (DS)
set_option linter.unusedVariables false
set_option linter.unusedSimpArgs false

theorem wpList_next_run {P : Program} {ops : Array Oper} {rest : List Oper} {o : Oper} {a : Act} {Q : Exit → Act → World → Prop} (w w' : World) (hgd : o.guard = none) (x : Operand) (ho : o.op = .next x true)
    (X V : Value) (hx : a.eval x = X) (hrun : (Instr.next X true o.type).run P w = .ok V w') (h : wpList P ops Q rest (a.put o.dst V) w') : wpList P ops Q (o :: rest) a w := by
  refine wpList_plain hgd fun K hK => ?_
  unfold Oper.wp execOp
  simp only [ho, hx, Sem.run_bind, Sem.run_pure, hrun, Result.andThen_ok]
  exact hK _ _ h
theorem conv_read (A : Option Addr) (c : Nat) (bs : List Int) (w : World) (hx : ReadI w .u8 A bs) : (convert 22 9 (.slice A bs.length c)).run Tryd.prog w = .ok (.string (strOfNums bs)) w := by
  by_cases h : bs = []
  · subst h
    cases A with
    | none => exact run_convert_bytes_nil w 22 5 Tryd.underlying22 Tryd.underlying5 0 c 9 Tryd.underlying9
    | some a =>
      rw [run_convert_bytes_string w 22 9 5 _ _ c Tryd.underlying22 Tryd.underlying5 Tryd.underlying9, run_bytesToString w _ _ c [] (by simp [loadCells, loadCellsFrom])]
      rfl
  · obtain ⟨b, o, rfl, hc⟩ := hx h
    exact run_convert_bytes_arg w 22 5 Tryd.underlying22 Tryd.underlying5 b o bs.length c bs rfl hc 9 Tryd.underlying9
theorem str_get (bs : List Int) (hb : ∀ x ∈ bs, Utf.Byte x) (i : Nat) : (((strOfNums bs).get! i).toNat : Int) = bs.getD i 0 ∧ ((strOfNums bs).get! i).toNat < 256 := by
  refine ⟨?_, UInt8.toNat_lt _⟩
  show (((strOfNums bs).data[i]!).toNat : Int) = _
  rcases Nat.lt_or_ge i bs.length with h | h
  · have h' : i < (strOfNums bs).data.size := by simp [strOfNums]; exact h
    have hB := hb (bs[i]) (List.getElem_mem h)
    rw [getElem!_pos (strOfNums bs).data i h']
    simp [strOfNums, List.getD_eq_getElem?_getD, h]
    unfold Utf.Byte at hB
    omega
  · have h' : ¬ i < (strOfNums bs).data.size := by simp [strOfNums]; exact h
    rw [getElem!_neg (strOfNums bs).data i h']
    simp [List.getD_eq_getElem?_getD, List.getElem?_eq_none h]
    rfl

namespace Utf
theorem num_take (l : List Int) (hb : ∀ x ∈ l, Byte x) (h : step l ≠ 0) : num (l.take (step l)) = numS (step l) (l.getD 0 0) (l.getD 1 0) (l.getD 2 0) (l.getD 3 0) ∧ enc (num (l.take (step l))) = l.take (step l) ∧ (enc (num (l.take (step l)))).length = step l := by
  have hw : ∀ k, wk l k ≠ 0 → wholeB (l.take (wk l k)) = true := by
    intro k
    induction k with
    | zero => intro h; exact absurd rfl h
    | succ k ih =>
      unfold wk
      split
      · rename_i h; intro _; exact h.2
      · exact ih
  have h1 : wholeB (l.take (step l)) = true := hw 4 h
  have hp := (whole_parts _).1 h1
  have hle := wk_le l 4
  have hle2 : step l ≤ 4 ∧ step l ≤ l.length := hle
  refine ⟨?_, hp.2.2.2, by rw [hp.2.2.2, List.length_take]; exact Nat.min_eq_left hle2.2⟩
  obtain ⟨k, hk⟩ : ∃ k, k = step l := ⟨_, rfl⟩
  rw [← hk] at hle2 h ⊢
  match l, hle2 with
  | [], h' => simp at h'; omega
  | [a], h' =>
    obtain rfl : k = 1 := by simp at h'; omega
    rfl
  | [a, b], h' =>
    rcases (show k = 1 ∨ k = 2 by simp at h'; omega) with rfl | rfl <;> rfl
  | [a, b, c], h' =>
    rcases (show k = 1 ∨ k = 2 ∨ k = 3 by simp at h'; omega) with rfl | rfl | rfl <;> rfl
  | a :: b :: c :: d :: r, h' =>
    rcases (show k = 1 ∨ k = 2 ∨ k = 3 ∨ k = 4 by omega) with rfl | rfl | rfl | rfl <;> rfl
theorem drop_getD (bs : List Int) (p i : Nat) : (bs.drop p).getD i 0 = bs.getD (p + i) 0 := by simp [List.getD_eq_getElem?_getD]
theorem decode_str (bs : List Int) (hb : ∀ x ∈ bs, Byte x) (p : Nat) (hp : p < bs.length) :
    (Utf8.decode (strOfNums bs) p).2 = (if step (bs.drop p) = 0 then 1 else step (bs.drop p)) ∧ ((Utf8.decode (strOfNums bs) p).1 : Int) = if step (bs.drop p) = 0 then 65533 else num ((bs.drop p).take (step (bs.drop p))) := by
  have hbd : ∀ x ∈ bs.drop p, Byte x := fun x hx => hb x (List.mem_of_mem_drop hx)
  have hne : bs.drop p ≠ [] := by intro e; have := congrArg List.length e; simp at this; omega
  have g0 := str_get bs hb p
  have g1 := str_get bs hb (p + 1)
  have g2 := str_get bs hb (p + 2)
  have g3 := str_get bs hb (p + 3)
  have hs := step_eq (bs.drop p) hbd hne
  simp only [drop_getD, Nat.add_zero, List.length_drop] at hs
  have hd := decode_step (bs.length - p) _ _ _ _ g0.2 g1.2 g2.2 g3.2
  rw [g0.1, g1.1, g2.1, g3.1, ← hs] at hd
  rw [Lib.decode_at, strOfNums_size]
  refine ⟨hd.1, hd.2.trans ?_⟩
  by_cases h : step (bs.drop p) = 0
  · rw [if_pos h, if_pos h]
  · rw [if_neg h, if_neg h, (num_take _ hbd h).1]
    simp only [drop_getD, Nat.add_zero]
/-- Just these three bytes tell the broken rune's own number. -/
theorem broken_step (l : List Int) (hb : ∀ x ∈ l, Byte x) (h : step l ≠ 0) (hn : num (l.take (step l)) = 65533) : 3 ≤ l.length ∧ l.getD 0 0 = 239 ∧ l.getD 1 0 = 191 ∧ l.getD 2 0 = 189 ∧ step l = 3 := by
  have h1 := num_take l hb h
  have e := h1.2.1
  rw [hn] at e
  have e2 : enc 65533 = [239, 191, 189] := by decide
  rw [e2] at e
  have h3 := h1.2.2
  rw [hn, e2] at h3
  have h4 : step l = 3 := h3.symm
  rw [h4] at e
  match l, e with
  | a :: b :: c :: r, e =>
    simp at e
    obtain ⟨rfl, rfl, rfl⟩ := e
    exact ⟨by simp, rfl, rfl, rfl, h4⟩
  | [a, b], e => simp at e
  | [a], e => simp at e
  | [], e => simp at e
theorem step_broken (l : List Int) (hb : ∀ x ∈ l, Byte x) (h3 : 3 ≤ l.length) (h0 : l.getD 0 0 = 239) (h1 : l.getD 1 0 = 191) (h2 : l.getD 2 0 = 189) : step l ≠ 0 := by
  have hne : l ≠ [] := by rintro rfl; simp at h3
  rw [step_eq l hb hne, h0, h1, h2]
  unfold stepR
  rw [if_neg (by omega), if_neg (by omega), if_pos (by refine ⟨by omega, h3, by decide, by omega⟩)]
  omega
end Utf
end Go.Proofs.YtkdmdklmkachfaaDoor
