/- The plain law of ParseEnds: behind 24 a parser's state tells on as a new one. No program in sight. -/
import Derived.Test.YtijjnpegokfidaaDoorPaMath
namespace Go.Proofs.YtijjnpegokfidaaDoor.Pa
open Utf (DS feed endT endS)

/-- Whatever is under way: the decoder rests. -/
def Idle (s : PS) : Prop := s.st ≠ 0 → s.d.need = 0
theorem endS_need (d : DS) : (endS d).need = 0 := by
  unfold endS
  split
  · assumption
  · rfl
theorem idle_start : Idle start := fun h => absurd rfl h
theorem idle_plain (s : PS) (b : Int) (h : s.st = 0) : Idle (plain s b).2 := by
  intro hn
  refine absurd ?_ hn
  unfold plain
  repeat' split
  all_goals exact h
theorem idle_feed (s : PS) (b : Int) (h : Idle s) : Idle (feedP s b).2 := by
  unfold feedP
  split
  · exact fun _ => endS_need _
  · split
    · exact idle_plain s b ‹_›
    · rename_i h0
      have hd := h h0
      split
      · exact fun h => absurd rfl h
      · split
        · unfold more
          repeat' split
          all_goals exact fun _ => hd
        · split
          · exact fun _ => hd
          · split
            · exact fun _ => hd
            · split
              · exact idle_plain _ b rfl
              · unfold sequence escaped controlled number
                repeat' split
                all_goals exact fun _ => hd
theorem idle_after (l : List Int) (s : PS) (h : Idle s) : Idle (after s l) := by
  induction l generalizing s with
  | nil => exact h
  | cons b l ih => exact ih _ (idle_feed s b h)
/-- Two states that tell the same from here on. -/
structure Alike (s t : PS) : Prop where
  st : s.st = t.st
  d : s.d = t.d ∨ (s.d.need = 0 ∧ t.d.need = 0)
  mark : s.st = 1 ∨ s.st = 3 → s.mark = t.mark
  csi : s.st = 3 → s.begun = t.begun ∧ s.middle = t.middle ∧ s.params = t.params
  txt : s.st = 5 → s.text = t.text ∧ s.long = t.long
theorem dec_feed {d e : DS} (b : Int) (h : d = e ∨ (d.need = 0 ∧ e.need = 0)) : feed d b = feed e b := by
  rcases h with rfl | ⟨h1, h2⟩
  · rfl
  · unfold feed; rw [if_pos h1, if_pos h2]
theorem dec_endT {d e : DS} (h : d = e ∨ (d.need = 0 ∧ e.need = 0)) : endT d = endT e := by
  rcases h with rfl | ⟨h1, h2⟩
  · rfl
  · unfold endT; rw [if_pos h1, if_pos h2]
theorem dec_endS (d e : DS) : endS d = endS e ∨ ((endS d).need = 0 ∧ (endS e).need = 0) := .inr ⟨endS_need d, endS_need e⟩
theorem Alike.ground {s t : PS} (hs : s.st = 0) (ht : t.st = 0) (hd : s.d = t.d ∨ (s.d.need = 0 ∧ t.d.need = 0)) : Alike s t :=
  ⟨by rw [hs, ht], hd, fun h => by rw [hs] at h; omega, fun h => by rw [hs] at h; omega, fun h => by rw [hs] at h; omega⟩
theorem alike_plain {s t : PS} (b : Int) (hs : s.st = 0) (ht : t.st = 0) (hd : s.d = t.d ∨ (s.d.need = 0 ∧ t.d.need = 0)) : (plain s b).1 = (plain t b).1 ∧ Alike (plain s b).2 (plain t b).2 := by
  unfold plain
  rw [dec_endT hd, dec_feed b hd]
  repeat' split
  · exact ⟨rfl, .ground hs ht (dec_endS _ _)⟩
  · exact ⟨rfl, .ground hs ht (dec_endS _ _)⟩
  · exact ⟨rfl, .ground hs ht (.inl rfl)⟩
theorem alike_osc {s t : PS} (h : Alike s t) : osc s = osc t := by
  unfold osc
  by_cases h5 : s.st = 5
  · have h5' : t.st = 5 := by rw [← h.st]; exact h5
    rw [h5, h5', (h.txt h5).1, (h.txt h5).2]
  · have h5' : t.st ≠ 5 := by rw [← h.st]; exact h5
    rw [if_neg (by simp [h5]), if_neg (by simp [h5'])]
theorem alike_more {s t : PS} (b : Int) (h : Alike s t) (h5 : s.st = 5) : (more s b).1 = (more t b).1 ∧ Alike (more s b).2 (more t b).2 := by
  have ho := alike_osc h
  obtain ⟨e1, e2⟩ := h.txt h5
  unfold more
  rw [ho, e1]
  repeat' split
  · exact ⟨rfl, .ground rfl rfl h.d⟩
  · exact ⟨rfl, h⟩
  · exact ⟨rfl, h.st, h.d, h.mark, h.csi, fun _ => ⟨rfl, rfl⟩⟩
  · exact ⟨rfl, h.st, h.d, h.mark, h.csi, fun _ => ⟨rfl, e2⟩⟩
theorem alike_escaped {s t : PS} (b : Int) (h : Alike s t) (h1 : s.st = 1) : (escaped s b).1 = (escaped t b).1 ∧ Alike (escaped s b).2 (escaped t b).2 := by
  have hm := h.mark (.inl h1)
  have ht : t.st = 1 := by rw [← h.st]; exact h1
  unfold escaped
  rw [hm]
  repeat' split
  · exact ⟨rfl, rfl, h.d, (fun h => by rcases h with h | h <;> cases h), (fun h => by cases h), (fun h => by cases h)⟩
  · exact ⟨rfl, h.st, h.d, fun _ => rfl, (fun h => by rw [show ({ s with mark := b } : PS).st = s.st from rfl, h1] at h; cases h), (fun h => by rw [show ({ s with mark := b } : PS).st = s.st from rfl, h1] at h; cases h)⟩
  · exact ⟨rfl, rfl, h.d, fun _ => rfl, fun _ => ⟨rfl, rfl, rfl⟩, (fun h => by cases h)⟩
  · exact ⟨rfl, rfl, h.d, (fun h => by rcases h with h | h <;> cases h), (fun h => by cases h), fun _ => ⟨rfl, rfl⟩⟩
  · exact ⟨rfl, rfl, h.d, (fun h => by rcases h with h | h <;> cases h), (fun h => by cases h), (fun h => by cases h)⟩
  · exact ⟨rfl, .ground rfl rfl h.d⟩
theorem alike_controlled {s t : PS} (b : Int) (h : Alike s t) (h3 : s.st = 3) : (controlled s b).1 = (controlled t b).1 ∧ Alike (controlled s b).2 (controlled t b).2 := by
  have hm := h.mark (.inr h3)
  have ht : t.st = 3 := by rw [← h.st]; exact h3
  obtain ⟨e1, e2, e3⟩ := h.csi h3
  have hl : lostB s b = lostB t b := by unfold lostB; rw [hm, e1, e2]
  unfold controlled
  rw [hm, e3, hl]
  split
  · exact ⟨rfl, .ground rfl rfl h.d⟩
  · split
    · exact ⟨rfl, rfl, h.d, (fun h => by rcases h with h | h <;> cases h), (fun h => by cases h), (fun h => by cases h)⟩
    · split
      · exact ⟨rfl, h.st, h.d, fun _ => rfl, fun _ => ⟨rfl, rfl, rfl⟩, fun h5 => by rw [show ({ s with mark := b, middle := true, begun := true } : PS).st = s.st from rfl, h3] at h5; cases h5⟩
      · split
        · exact ⟨rfl, h.st, h.d, fun _ => rfl, fun _ => ⟨rfl, e2, rfl⟩, fun h5 => by rw [show ({ s with mark := b, begun := true } : PS).st = s.st from rfl, h3] at h5; cases h5⟩
        · unfold number
          rw [e3]
          repeat' split
          all_goals exact ⟨rfl, h.st, h.d, fun _ => hm, fun _ => ⟨rfl, e2, rfl⟩, fun h5 => by have h6 : s.st = 5 := h5; rw [h3] at h6; cases h6⟩
theorem alike_feed {s t : PS} (b : Int) (h : Alike s t) : (feedP s b).1 = (feedP t b).1 ∧ Alike (feedP s b).2 (feedP t b).2 := by
  unfold feedP
  rw [dec_endT h.d, alike_osc h, ← h.st]
  split
  · exact ⟨rfl, rfl, dec_endS _ _, fun _ => rfl, (fun h => by cases h), (fun h => by cases h)⟩
  · split
    · rename_i h0
      exact alike_plain b h0 (by rw [← h.st]; exact h0) h.d
    · split
      · exact ⟨rfl, .ground rfl rfl h.d⟩
      · split
        · exact alike_more b h ‹_›
        · split
          · exact ⟨rfl, h⟩
          · split
            · exact ⟨rfl, h⟩
            · split
              · exact alike_plain b rfl rfl h.d
              · unfold sequence
                rw [← h.st]
                split
                · exact alike_escaped b h ‹_›
                · split
                  · exact alike_controlled b h ‹_›
                  · repeat' split
                    all_goals first | exact ⟨rfl, h⟩ | exact ⟨rfl, .ground rfl rfl h.d⟩
theorem alike_told (l : List Int) {s t : PS} (h : Alike s t) : told s l = told t l := by
  induction l generalizing s t with
  | nil => rfl
  | cons b l ih =>
    obtain ⟨h1, h2⟩ := alike_feed b h
    simp only [told]
    rw [h1, ih h2]
theorem ends_alike (s : PS) (h : Idle s) : Alike (feedP s 24).2 start := by
  have hst : start.d.need = 0 := rfl
  unfold feedP
  rw [if_neg (by decide)]
  split
  · unfold plain
    rw [if_pos (by decide)]
    exact .ground ‹_› rfl (.inr ⟨endS_need _, rfl⟩)
  · rw [if_pos (.inl rfl)]
    exact .ground rfl rfl (.inr ⟨h ‹_›, rfl⟩)
theorem ends_told (a b : List Int) : told (feedP (after start a) 24).2 b = acts b := alike_told b (ends_alike _ (idle_after a start idle_start))
end Go.Proofs.YtijjnpegokfidaaDoor.Pa
