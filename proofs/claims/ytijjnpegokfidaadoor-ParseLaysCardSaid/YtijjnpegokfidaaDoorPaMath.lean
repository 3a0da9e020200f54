/- The plain law of the parser: a state and what a byte makes of it. No program in sight. -/
import Derived.Test.YtijjnpegokfidaaDoorUtfMath
namespace Go.Proofs.YtijjnpegokfidaaDoor.Pa
open Utf (DS feed endT endS)

structure TAct where
  kind : Int
  rune : Int
  mark : Int
  final : Int
  params : List Int
  text : List Int
deriving DecidableEq
structure PS where
  d : DS
  st : Nat
  begun : Bool
  mark : Int
  middle : Bool
  params : List Int
  text : List Int
  long : Bool
def start : PS := ⟨Utf.start, 0, false, 0, false, [], [], false⟩
def print (r : Int) : TAct := ⟨1, r, 0, 0, [], []⟩
def prints (l : List Int) : List TAct := l.map print
def c0 (b : Int) : TAct := ⟨2, 0, 0, b, [], []⟩
def osc (s : PS) : List TAct := if s.st = 5 ∧ s.long = false then [⟨5, 0, 0, 0, [], s.text⟩] else []
def plain (s : PS) (b : Int) : List TAct × PS :=
  if b < 32 then (prints (endT s.d) ++ [c0 b], { s with d := endS s.d })
  else if b = 127 then (prints (endT s.d), { s with d := endS s.d })
  else (prints (feed s.d b).1, { s with d := (feed s.d b).2 })
def more (s : PS) (b : Int) : List TAct × PS :=
  if b = 7 then (osc s, { s with st := 0 })
  else if b < 32 then ([], s)
  else if s.text.length = 256 then ([], { s with long := true })
  else ([], { s with text := s.text ++ [b] })
def first (l : List Int) : List Int := if l = [] then [0] else l
def setLast (l : List Int) (x : Int) : List Int := l.set (l.length - 1) x
def number (s : PS) (b : Int) : PS :=
  if b ≤ 57 then { s with params := setLast (first s.params) (min (10 * (first s.params).getD ((first s.params).length - 1) 0 + (b - 48)) 9999) }
  else if (first s.params).length - 1 < 16 then { s with params := first s.params ++ [0] }
  else { s with params := first s.params }
def escaped (s : PS) (b : Int) : List TAct × PS :=
  if b < 48 then (if s.mark ≠ 0 then ([], { s with st := 2 }) else ([], { s with mark := b }))
  else if s.mark = 0 ∧ b = 91 then ([], { s with st := 3, begun := false, middle := false, params := [] })
  else if s.mark = 0 ∧ b = 93 then ([], { s with st := 5, text := [], long := false })
  else if s.mark = 0 ∧ (b = 80 ∨ b = 88 ∨ b = 94 ∨ b = 95) then ([], { s with st := 6 })
  else ([⟨3, 0, s.mark, b, [], []⟩], { s with st := 0 })
def lostB (s : PS) (b : Int) : Bool := (decide (48 ≤ b) && decide (b ≤ 59) && s.middle) || (decide (b < 48) && s.mark != 0) || (decide (60 ≤ b) && s.begun)
def controlled (s : PS) (b : Int) : List TAct × PS :=
  if 64 ≤ b then ([⟨4, 0, s.mark, b, s.params.take 16, []⟩], { s with st := 0 })
  else if lostB s b then ([], { s with st := 4, begun := true })
  else if b < 48 then ([], { s with mark := b, middle := true, begun := true })
  else if 60 ≤ b then ([], { s with mark := b, begun := true })
  else ([], { number s b with begun := true })
def sequence (s : PS) (b : Int) : List TAct × PS :=
  if s.st = 1 then escaped s b
  else if s.st = 3 then controlled s b
  else if s.st = 4 then (if b < 64 then ([], s) else ([], { s with st := 0 }))
  else if s.st = 2 then (if b < 48 then ([], s) else ([], { s with st := 0 }))
  else ([], s)
def feedP (s : PS) (b : Int) : List TAct × PS :=
  if b = 27 then (prints (endT s.d) ++ osc s, { s with d := endS s.d, st := 1, mark := 0 })
  else if s.st = 0 then plain s b
  else if b = 24 ∨ b = 26 then ([], { s with st := 0 })
  else if s.st = 5 then more s b
  else if s.st = 6 ∨ b = 127 then ([], s)
  else if b < 32 then ([c0 b], s)
  else if 128 ≤ b then plain { s with st := 0 } b
  else sequence s b
def told (s : PS) : List Int → List TAct
  | [] => []
  | b :: l => (feedP s b).1 ++ told (feedP s b).2 l
def after (s : PS) : List Int → PS
  | [] => s
  | b :: l => after (feedP s b).2 l
def acts (l : List Int) : List TAct := told start l
theorem told_snoc (s : PS) (l : List Int) (b : Int) : told s (l ++ [b]) = told s l ++ (feedP (after s l) b).1 := by
  induction l generalizing s with
  | nil => simp [told, after]
  | cons a l ih => simp only [List.cons_append, told, after, ih, List.append_assoc]
theorem after_snoc (s : PS) (l : List Int) (b : Int) : after s (l ++ [b]) = (feedP (after s l) b).2 := by
  induction l generalizing s with
  | nil => simp [after]
  | cons a l ih => simp only [List.cons_append, after, ih]

/-- What the parser's numbers keep to. -/
structure WF (s : PS) : Prop where
  d : Utf.WF s.d
  mark : 0 ≤ s.mark ∧ s.mark < 256
  plen : s.params.length ≤ 17
  pbd : ∀ x ∈ s.params, 0 ≤ x ∧ x ≤ 9999
  tlen : s.text.length ≤ 256
  st : s.st ≤ 6
structure AOk (a : TAct) : Prop where
  kind : 1 ≤ a.kind ∧ a.kind ≤ 5
  params : a.params.length ≤ 16
  pbd : ∀ x ∈ a.params, 0 ≤ x ∧ x ≤ 9999
  text : a.text.length ≤ 256
theorem wf_start : WF start := ⟨Utf.wf_start, by decide, by decide, (fun _ h => by cases h), by decide, by decide⟩
theorem aok_prints (l : List Int) : ∀ a ∈ prints l, AOk a := by
  intro a ha
  obtain ⟨r, _, rfl⟩ := List.mem_map.1 ha
  exact ⟨by simp [print], by simp [print], (fun _ h => by cases h), by simp [print]⟩
theorem aok_c0 (b : Int) : AOk (c0 b) := ⟨by simp [c0], by simp [c0], (fun _ h => by cases h), by simp [c0]⟩
theorem aok_osc (s : PS) (h : WF s) : ∀ a ∈ osc s, AOk a := by
  intro a ha
  unfold osc at ha
  split at ha
  · rw [List.mem_singleton.1 ha]
    exact ⟨by simp, by simp, (fun _ h => by cases h), h.tlen⟩
  · cases ha
theorem aok_nil : ∀ a ∈ ([] : List TAct), AOk a := fun _ h => by cases h
theorem plain_ok (s : PS) (b : Int) (h : WF s) : WF (plain s b).2 ∧ ∀ a ∈ (plain s b).1, AOk a := by
  unfold plain
  split
  · refine ⟨⟨Utf.wf_end _ h.d, h.mark, h.plen, h.pbd, h.tlen, h.st⟩, fun a ha => ?_⟩
    rcases List.mem_append.1 ha with ha | ha
    · exact aok_prints _ a ha
    · rw [List.mem_singleton.1 ha]; exact aok_c0 b
  · split
    · exact ⟨⟨Utf.wf_end _ h.d, h.mark, h.plen, h.pbd, h.tlen, h.st⟩, aok_prints _⟩
    · exact ⟨⟨Utf.wf_feed _ b h.d, h.mark, h.plen, h.pbd, h.tlen, h.st⟩, aok_prints _⟩
theorem first_ok (l : List Int) (h : l.length ≤ 17) (hb : ∀ x ∈ l, 0 ≤ x ∧ x ≤ 9999) : (first l).length ≤ 17 ∧ 1 ≤ (first l).length ∧ ∀ x ∈ first l, 0 ≤ x ∧ x ≤ 9999 := by
  unfold first
  split
  · exact ⟨by decide, by decide, fun x hx => by rw [List.mem_singleton.1 hx]; decide⟩
  · rename_i hne
    have := List.length_pos_iff.2 hne
    exact ⟨h, by omega, hb⟩
theorem number_ok (s : PS) (b : Int) (h : WF s) (hb : 48 ≤ b) : WF (number s b) := by
  obtain ⟨f1, f2, f3⟩ := first_ok s.params h.plen h.pbd
  unfold number
  split
  · refine ⟨h.d, h.mark, by simp [setLast]; exact f1, fun x hx => ?_, h.tlen, h.st⟩
    rcases List.mem_or_eq_of_mem_set hx with hx | rfl
    · exact f3 x hx
    · have hl : (first s.params).length - 1 < (first s.params).length := by omega
      have := f3 ((first s.params).getD ((first s.params).length - 1) 0) (by rw [List.getD_eq_getElem?_getD, List.getElem?_eq_getElem hl]; exact List.getElem_mem hl)
      omega
  · split
    · refine ⟨h.d, h.mark, by simp; omega, fun x hx => ?_, h.tlen, h.st⟩
      rcases List.mem_append.1 hx with hx | hx
      · exact f3 x hx
      · rw [List.mem_singleton.1 hx]; decide
    · exact ⟨h.d, h.mark, f1, f3, h.tlen, h.st⟩
theorem escaped_ok (s : PS) (b : Int) (h : WF s) (hb : 0 ≤ b ∧ b < 256) : WF (escaped s b).2 ∧ ∀ a ∈ (escaped s b).1, AOk a := by
  unfold escaped
  repeat' split
  · exact ⟨⟨h.d, h.mark, h.plen, h.pbd, h.tlen, by simp⟩, aok_nil⟩
  · exact ⟨⟨h.d, hb, h.plen, h.pbd, h.tlen, h.st⟩, aok_nil⟩
  · exact ⟨⟨h.d, h.mark, by simp, (fun _ h => by cases h), h.tlen, by simp⟩, aok_nil⟩
  · exact ⟨⟨h.d, h.mark, h.plen, h.pbd, by simp, by simp⟩, aok_nil⟩
  · exact ⟨⟨h.d, h.mark, h.plen, h.pbd, h.tlen, by simp⟩, aok_nil⟩
  · exact ⟨⟨h.d, h.mark, h.plen, h.pbd, h.tlen, by simp⟩, fun a ha => by
      rw [List.mem_singleton.1 ha]
      exact ⟨by simp, by simp, (fun _ h => by cases h), by simp⟩⟩
theorem controlled_ok (s : PS) (b : Int) (h : WF s) (hb : 0 ≤ b ∧ b < 256) : WF (controlled s b).2 ∧ ∀ a ∈ (controlled s b).1, AOk a := by
  unfold controlled
  split
  · exact ⟨⟨h.d, h.mark, h.plen, h.pbd, h.tlen, by simp⟩, fun a ha => by
      rw [List.mem_singleton.1 ha]
      exact ⟨by simp, by simp; omega, fun x hx => h.pbd x (List.mem_of_mem_take hx), by simp⟩⟩
  · split
    · exact ⟨⟨h.d, h.mark, h.plen, h.pbd, h.tlen, by simp⟩, aok_nil⟩
    · split
      · exact ⟨⟨h.d, hb, h.plen, h.pbd, h.tlen, h.st⟩, aok_nil⟩
      · split
        · exact ⟨⟨h.d, hb, h.plen, h.pbd, h.tlen, h.st⟩, aok_nil⟩
        · have hn := number_ok s b h (by omega)
          exact ⟨⟨hn.d, hn.mark, hn.plen, hn.pbd, hn.tlen, hn.st⟩, aok_nil⟩
theorem feedP_ok (s : PS) (b : Int) (h : WF s) (hb : 0 ≤ b ∧ b < 256) : WF (feedP s b).2 ∧ ∀ a ∈ (feedP s b).1, AOk a := by
  have hs0 : ∀ n, n ≤ 6 → WF { s with st := n } := fun n hn => ⟨h.d, h.mark, h.plen, h.pbd, h.tlen, hn⟩
  unfold feedP
  split
  · exact ⟨⟨Utf.wf_end _ h.d, by simp, h.plen, h.pbd, h.tlen, by simp⟩, fun a ha => by
      rcases List.mem_append.1 ha with ha | ha
      · exact aok_prints _ a ha
      · exact aok_osc s h a ha⟩
  · split
    · exact plain_ok s b h
    · split
      · exact ⟨hs0 0 (by decide), aok_nil⟩
      · split
        · unfold more
          repeat' split
          · exact ⟨hs0 0 (by decide), aok_osc s h⟩
          · exact ⟨h, aok_nil⟩
          · exact ⟨⟨h.d, h.mark, h.plen, h.pbd, h.tlen, h.st⟩, aok_nil⟩
          · rename_i h1
            have := h.tlen
            exact ⟨⟨h.d, h.mark, h.plen, h.pbd, by simp; omega, h.st⟩, aok_nil⟩
        · split
          · exact ⟨h, aok_nil⟩
          · split
            · exact ⟨h, fun a ha => by rw [List.mem_singleton.1 ha]; exact aok_c0 b⟩
            · split
              · exact plain_ok _ b (hs0 0 (by decide))
              · unfold sequence
                repeat' split
                · exact escaped_ok s b h hb
                · exact controlled_ok s b h hb
                · exact ⟨h, aok_nil⟩
                · exact ⟨hs0 0 (by decide), aok_nil⟩
                · exact ⟨h, aok_nil⟩
                · exact ⟨hs0 0 (by decide), aok_nil⟩
                · exact ⟨h, aok_nil⟩
theorem after_ok (s : PS) (h : WF s) : ∀ l : List Int, (∀ x ∈ l, 0 ≤ x ∧ x < 256) → WF (after s l)
  | [], _ => h
  | b :: l, hb => after_ok _ (feedP_ok s b h (hb b (List.mem_cons_self ..))).1 l (fun x hx => hb x (List.mem_cons_of_mem _ hx))
termination_by l => l.length
theorem told_ok (s : PS) (h : WF s) : ∀ l : List Int, (∀ x ∈ l, 0 ≤ x ∧ x < 256) → ∀ a ∈ told s l, AOk a
  | [], _ => aok_nil
  | b :: l, hb => fun a ha => by
    have hf := feedP_ok s b h (hb b (List.mem_cons_self ..))
    rcases List.mem_append.1 ha with ha | ha
    · exact hf.2 a ha
    · exact told_ok _ hf.1 l (fun x hx => hb x (List.mem_cons_of_mem _ hx)) a ha
termination_by l => l.length
theorem feedP_len (s : PS) (b : Int) : (feedP s b).1.length ≤ 2 := by
  have h1 := Utf.feed_len s.d b
  have h2 := Utf.end_len s.d
  have hp : ∀ (x : PS), x.d = s.d → (plain x b).1.length ≤ 2 := fun x hx => by
    unfold plain
    rw [hx]
    repeat' split
    · simp [prints]; omega
    · simp [prints]; omega
    · simp [prints]; omega
  have ho : (osc s).length ≤ 1 := by unfold osc; split <;> simp
  unfold feedP
  repeat' split
  · simp [prints]; omega
  · exact hp s rfl
  · simp
  · unfold more; repeat' split
    all_goals first | (simp; done) | (simp only []; omega)
  · simp
  · simp
  · exact hp _ rfl
  · unfold sequence escaped controlled
    repeat' split
    all_goals simp
theorem told_len (s : PS) (l : List Int) : (told s l).length ≤ 2 * l.length := by
  induction l generalizing s with
  | nil => simp [told]
  | cons a l ih =>
    have := ih (feedP s a).2
    have := feedP_len s a
    simp only [told, List.length_append, List.length_cons]
    omega
end Go.Proofs.YtijjnpegokfidaaDoor.Pa
