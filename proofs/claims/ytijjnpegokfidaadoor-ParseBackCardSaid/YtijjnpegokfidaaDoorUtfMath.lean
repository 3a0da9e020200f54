/- The plain law of UTF-8, byte by byte: a decoder by numbers against a decoder by beginnings of runes' bytes. No program in sight. -/
import Derived.Test.YtijjnpegokfidaaDoorRows
namespace Go.Proofs.YtijjnpegokfidaaDoor.Utf

/-- A decoder: how many bytes are missing, the number so far, from where to where the next byte may be. -/
structure DS where
  need : Nat
  n : Int
  lo : Int
  hi : Int

def loOf (a : Int) : Int := if a = 224 then 160 else if a = 240 then 144 else 128
def hiOf (a : Int) : Int := if a = 237 then 159 else if a = 244 then 143 else 191
def start : DS := ⟨0, 0, 0, 0⟩
def rest : DS := ⟨0, 0, 128, 191⟩
def begin_ (b : Int) : List Int × DS :=
  if b < 128 then ([b], rest)
  else if 194 ≤ b ∧ b ≤ 223 then ([], ⟨1, b % 32, 128, 191⟩)
  else if 224 ≤ b ∧ b ≤ 239 then ([], ⟨2, b % 16, loOf b, hiOf b⟩)
  else if 240 ≤ b ∧ b ≤ 244 then ([], ⟨3, b % 8, loOf b, hiOf b⟩)
  else ([65533], rest)
def feed (s : DS) (b : Int) : List Int × DS :=
  if s.need = 0 then begin_ b
  else if b < s.lo ∨ s.hi < b then (65533 :: (begin_ b).1, (begin_ b).2)
  else if s.need = 1 then ([s.n * 64 + b % 64], ⟨0, s.n * 64 + b % 64, 128, 191⟩)
  else ([], ⟨s.need - 1, s.n * 64 + b % 64, 128, 191⟩)
def endT (s : DS) : List Int := if s.need = 0 then [] else [65533]
def endS (s : DS) : DS := if s.need = 0 then s else ⟨0, s.n, s.lo, s.hi⟩
/-- What bytes tell, and the decoder behind them. -/
def told (s : DS) : List Int → List Int
  | [] => []
  | b :: l => (feed s b).1 ++ told (feed s b).2 l
def after (s : DS) : List Int → DS
  | [] => s
  | b :: l => after (feed s b).2 l
def runes (l : List Int) : List Int := told start l ++ endT (after start l)

/-- What a decoder's numbers keep to. -/
structure WF (s : DS) : Prop where
  n0 : 0 ≤ s.n
  n1 : s.need = 3 → s.n < 8
  n2 : s.need = 2 → s.n < 512
  n3 : s.need = 1 → s.n < 32768
  n4 : s.n < 2097152
  need : s.need ≤ 3
  lo0 : 0 ≤ s.lo
  lo1 : s.lo < 256
  hi0 : 0 ≤ s.hi
  hi1 : s.hi < 256
theorem wf_start : WF start := ⟨by decide, by decide, by decide, by decide, by decide, by decide, by decide, by decide, by decide, by decide⟩
theorem wf_rest : WF rest := ⟨by decide, by decide, by decide, by decide, by decide, by decide, by decide, by decide, by decide, by decide⟩
theorem loOf_bd (a : Int) : 128 ≤ loOf a ∧ loOf a ≤ 160 := by
  unfold loOf
  repeat' split
  all_goals omega
theorem hiOf_bd (a : Int) : 143 ≤ hiOf a ∧ hiOf a ≤ 191 := by
  unfold hiOf
  repeat' split
  all_goals omega
theorem wf_begin (b : Int) : WF (begin_ b).2 := by
  have hl := loOf_bd b
  have hh := hiOf_bd b
  unfold begin_
  repeat' split
  · exact wf_rest
  · constructor <;> simp only <;> omega
  · constructor <;> simp only <;> omega
  · constructor <;> simp only <;> omega
  · exact wf_rest
theorem wf_feed (s : DS) (b : Int) (h : WF s) : WF (feed s b).2 := by
  obtain ⟨h0, h1, h2, h3, h4, h5, h6, h7, h8, h9⟩ := h
  unfold feed
  repeat' split
  · exact wf_begin b
  · exact wf_begin b
  · constructor <;> simp only <;> omega
  · constructor <;> simp only <;> omega
theorem wf_end (s : DS) (h : WF s) : WF (endS s) := by
  obtain ⟨h0, h1, h2, h3, h4, h5, h6, h7, h8, h9⟩ := h
  unfold endS
  split
  · exact ⟨h0, h1, h2, h3, h4, h5, h6, h7, h8, h9⟩
  · constructor <;> simp only <;> omega
theorem wf_after (s : DS) (h : WF s) : ∀ l, WF (after s l)
  | [] => h
  | b :: l => wf_after _ (wf_feed s b h) l
termination_by l => l.length

theorem told_snoc (s : DS) (l : List Int) (b : Int) : told s (l ++ [b]) = told s l ++ (feed (after s l) b).1 := by
  induction l generalizing s with
  | nil => simp [told, after]
  | cons a l ih => simp only [List.cons_append, told, after, ih, List.append_assoc]
theorem after_snoc (s : DS) (l : List Int) (b : Int) : after s (l ++ [b]) = (feed (after s l) b).2 := by
  induction l generalizing s with
  | nil => simp [after]
  | cons a l ih => simp only [List.cons_append, after, ih]
theorem begin_len (b : Int) : (begin_ b).1.length ≤ 1 := by
  unfold begin_
  repeat' split
  all_goals simp
theorem feed_len (s : DS) (b : Int) : (feed s b).1.length ≤ 2 := by
  have hb : (begin_ b).1.length ≤ 1 := by
    unfold begin_
    repeat' split
    all_goals simp
  unfold feed
  repeat' split
  · omega
  · simp only [List.length_cons]; omega
  · simp
  · simp
theorem end_len (s : DS) : (endT s).length ≤ 1 := by unfold endT; split <;> simp
theorem told_len (s : DS) (l : List Int) : (told s l).length ≤ 2 * l.length := by
  induction l generalizing s with
  | nil => simp [told]
  | cons a l ih =>
    have := ih (feed s a).2
    have := feed_len s a
    simp only [told, List.length_append, List.length_cons]
    omega

/-! ### The document's -/
def may (r : Int) : Bool := (decide (0 ≤ r) && decide (r ≤ 55295)) || (decide (57344 ≤ r) && decide (r ≤ 1114111))
def enc1 (r : Int) : List Int :=
  if r < 128 then [r]
  else if r < 2048 then [192 + r / 64, 128 + r % 64]
  else if r < 65536 then [224 + r / 4096, 128 + r / 64 % 64, 128 + r % 64]
  else [240 + r / 262144, 128 + r / 4096 % 64, 128 + r / 64 % 64, 128 + r % 64]
def enc (r : Int) : List Int := enc1 (if may r then r else 65533)
def num : List Int → Int
  | [a] => a
  | [a, b] => (a - 192) * 64 + b - 128
  | [a, b, c] => (a - 224) * 4096 + (b - 128) * 64 + c - 128
  | [a, b, c, d] => (a - 240) * 262144 + (b - 128) * 4096 + (c - 128) * 64 + d - 128
  | _ => -1
def wholeB (x : List Int) : Bool := decide (0 ≤ num x) && decide (num x ≤ 1114111) && may (num x) && (enc (num x) == x)
def wholeN (x : List Int) : Int := if wholeB x then num x else 0
def beginsB : List Int → Bool
  | [a] => decide (194 ≤ a) && decide (a ≤ 244)
  | [a, b] => decide (224 ≤ a) && decide (a ≤ 244) && decide (loOf a ≤ b) && decide (b ≤ hiOf a)
  | [a, b, c] => decide (240 ≤ a) && decide (a ≤ 244) && decide (loOf a ≤ b) && decide (b ≤ hiOf a) && decide (128 ≤ c) && decide (c ≤ 191)
  | _ => false
def rfeed0 (b : Int) : List Int × List Int :=
  if wholeB [b] then ([wholeN [b]], [])
  else if beginsB [b] then ([], [b])
  else ([65533], [])
def rfeed (o : List Int) (b : Int) : List Int × List Int :=
  if wholeB (o ++ [b]) then ([wholeN (o ++ [b])], [])
  else if beginsB (o ++ [b]) then ([], o ++ [b])
  else if o.length = 0 then ([65533], [])
  else (65533 :: (rfeed0 b).1, (rfeed0 b).2)
def rendT (o : List Int) : List Int := if o.length = 0 then [] else [65533]
def rtold (o : List Int) : List Int → List Int
  | [] => []
  | b :: l => (rfeed o b).1 ++ rtold (rfeed o b).2 l
def rafter (o : List Int) : List Int → List Int
  | [] => o
  | b :: l => rafter (rfeed o b).2 l
def rrunes (l : List Int) : List Int := rtold [] l ++ rendT (rafter [] l)

theorem may_iff (r : Int) : may r = true ↔ (0 ≤ r ∧ r ≤ 55295) ∨ (57344 ≤ r ∧ r ≤ 1114111) := by simp [may]
theorem whole1 (a : Int) : wholeB [a] = true ↔ 0 ≤ a ∧ a < 128 := by
  unfold wholeB num enc
  simp only [Bool.and_eq_true, decide_eq_true_eq, beq_iff_eq]
  constructor
  · rintro ⟨⟨⟨h0, h1⟩, hm⟩, he⟩
    rw [if_pos hm] at he
    unfold enc1 at he
    split at he
    · omega
    · split at he
      · simp at he
      · split at he <;> simp at he
  · intro ⟨h0, h1⟩
    have hm : may a = true := (may_iff a).2 (by omega)
    rw [if_pos hm]
    unfold enc1
    rw [if_pos h1]
    exact ⟨⟨⟨h0, by omega⟩, hm⟩, rfl⟩
theorem whole2 (a b : Int) (ha : 0 ≤ a ∧ a < 256) (hb : 0 ≤ b ∧ b < 256) : wholeB [a, b] = true ↔ (194 ≤ a ∧ a ≤ 223) ∧ (128 ≤ b ∧ b ≤ 191) := by
  unfold wholeB num enc
  simp only [Bool.and_eq_true, decide_eq_true_eq, beq_iff_eq]
  constructor
  · rintro ⟨⟨⟨h0, h1⟩, hm⟩, he⟩
    rw [if_pos hm] at he
    unfold enc1 at he
    split at he
    · simp at he
    · split at he
      · simp only [List.cons.injEq, and_true] at he
        omega
      · split at he <;> simp at he
  · intro ⟨h0, h1⟩
    have hm : may ((a - 192) * 64 + b - 128) = true := (may_iff _).2 (by omega)
    rw [if_pos hm]
    unfold enc1
    rw [if_neg (by omega), if_pos (by omega)]
    refine ⟨⟨⟨by omega, by omega⟩, hm⟩, ?_⟩
    simp only [List.cons.injEq, and_true]
    omega
theorem whole3 (a b c : Int) (ha : 0 ≤ a ∧ a < 256) (hb : 0 ≤ b ∧ b < 256) (hc : 0 ≤ c ∧ c < 256) :
    wholeB [a, b, c] = true ↔ (224 ≤ a ∧ a ≤ 239) ∧ (loOf a ≤ b ∧ b ≤ hiOf a) ∧ (128 ≤ c ∧ c ≤ 191) := by
  unfold wholeB num enc
  simp only [Bool.and_eq_true, decide_eq_true_eq, beq_iff_eq]
  constructor
  · rintro ⟨⟨⟨h0, h1⟩, hm⟩, he⟩
    have hm' := (may_iff _).1 hm
    rw [if_pos hm] at he
    unfold enc1 at he
    split at he
    · simp at he
    · split at he
      · simp at he
      · split at he
        · simp only [List.cons.injEq, and_true] at he
          unfold loOf hiOf
          obtain ⟨e1, e2, e3⟩ := he
          refine ⟨by omega, ?_, by omega⟩
          repeat' split
          all_goals omega
        · simp at he
  · intro ⟨h0, h1, h2⟩
    have hl := loOf_bd a
    have hh := hiOf_bd a
    unfold loOf hiOf at h1
    have hm : may ((a - 224) * 4096 + (b - 128) * 64 + c - 128) = true := (may_iff _).2 (by
      split at h1 <;> (try split at h1) <;> (try split at h1) <;> (try split at h1) <;> omega)
    rw [if_pos hm]
    have hr : 2048 ≤ (a - 224) * 4096 + (b - 128) * 64 + c - 128 := by
      split at h1 <;> (try split at h1) <;> (try split at h1) <;> (try split at h1) <;> omega
    unfold enc1
    rw [if_neg (by omega), if_neg (by omega), if_pos (by omega)]
    refine ⟨⟨⟨by omega, by omega⟩, hm⟩, ?_⟩
    simp only [List.cons.injEq, and_true]
    omega
theorem whole4 (a b c d : Int) (ha : 0 ≤ a ∧ a < 256) (hb : 0 ≤ b ∧ b < 256) (hc : 0 ≤ c ∧ c < 256) (hd : 0 ≤ d ∧ d < 256) :
    wholeB [a, b, c, d] = true ↔ (240 ≤ a ∧ a ≤ 244) ∧ (loOf a ≤ b ∧ b ≤ hiOf a) ∧ (128 ≤ c ∧ c ≤ 191) ∧ (128 ≤ d ∧ d ≤ 191) := by
  unfold wholeB num enc
  simp only [Bool.and_eq_true, decide_eq_true_eq, beq_iff_eq]
  constructor
  · rintro ⟨⟨⟨h0, h1⟩, hm⟩, he⟩
    rw [if_pos hm] at he
    unfold enc1 at he
    split at he
    · simp at he
    · split at he
      · simp at he
      · split at he
        · simp at he
        · simp only [List.cons.injEq, and_true] at he
          unfold loOf hiOf
          obtain ⟨e1, e2, e3, e4⟩ := he
          refine ⟨by omega, ?_, by omega, by omega⟩
          repeat' split
          all_goals omega
  · intro ⟨h0, h1, h2, h3⟩
    unfold loOf hiOf at h1
    have hr : 65536 ≤ (a - 240) * 262144 + (b - 128) * 4096 + (c - 128) * 64 + d - 128 ∧ (a - 240) * 262144 + (b - 128) * 4096 + (c - 128) * 64 + d - 128 ≤ 1114111 ∧ 128 ≤ b ∧ b ≤ 191 := by
      split at h1 <;> (try split at h1) <;> (try split at h1) <;> (try split at h1) <;> omega
    have hm : may ((a - 240) * 262144 + (b - 128) * 4096 + (c - 128) * 64 + d - 128) = true := (may_iff _).2 (by omega)
    rw [if_pos hm]
    unfold enc1
    rw [if_neg (by omega), if_neg (by omega), if_neg (by omega)]
    refine ⟨⟨⟨by omega, by omega⟩, hm⟩, ?_⟩
    simp only [List.cons.injEq, and_true]
    omega

def Byte (a : Int) : Prop := 0 ≤ a ∧ a < 256

/-- A begun rune's bytes, with more, that are a rune's: they begin one. -/
theorem begins_of (x ext : List Int) (hx : ∀ a ∈ x, Byte a) (he : ∀ a ∈ ext, Byte a) (h1 : x ≠ []) (h2 : ext ≠ []) (h : wholeB (x ++ ext) = true) : beginsB x = true := by
  have bad : ∀ y : List Int, 5 ≤ y.length → wholeB y = true → False := by
    intro y hy hw
    match y, hy with
    | a :: b :: c :: d :: e :: l, _ => simp [wholeB, num] at hw
  match x, ext with
  | [a], [b] =>
    have := (whole2 a b (hx a (by simp)) (he b (by simp))).1 h
    simp [beginsB]; omega
  | [a], [b, c] =>
    have := (whole3 a b c (hx a (by simp)) (he b (by simp)) (he c (by simp))).1 h
    simp [beginsB]; omega
  | [a], [b, c, d] =>
    have := (whole4 a b c d (hx a (by simp)) (he b (by simp)) (he c (by simp)) (he d (by simp))).1 h
    simp [beginsB]; omega
  | [a, b], [c] =>
    have := (whole3 a b c (hx a (by simp)) (hx b (by simp)) (he c (by simp))).1 h
    simp [beginsB]; omega
  | [a, b], [c, d] =>
    have := (whole4 a b c d (hx a (by simp)) (hx b (by simp)) (he c (by simp)) (he d (by simp))).1 h
    simp [beginsB]; omega
  | [a, b, c], [d] =>
    have := (whole4 a b c d (hx a (by simp)) (hx b (by simp)) (hx c (by simp)) (he d (by simp))).1 h
    simp [beginsB]; omega
  | [a], b :: c :: d :: e :: l => exact (bad _ (by simp) h).elim
  | [a, b], c :: d :: e :: l => exact (bad _ (by simp) h).elim
  | [a, b, c], d :: e :: l => exact (bad _ (by simp) h).elim
  | a :: b :: c :: d :: l, e :: m => exact (bad _ (by simp; omega) h).elim

/-- What the document tries: the bytes, and the same one behind them. -/
def pad (last : Nat) : Int := if last = 1 then 191 else 128
def tryOf (x : List Int) (n last : Nat) : List Int := x ++ List.replicate (n - x.length) (pad last)
theorem pad_byte (last : Nat) : Byte (pad last) := by unfold pad Byte; split <;> omega
theorem begins_not1 (a : Int) (ha : Byte a) (h : ∀ n last s, 2 ≤ n → n ≤ 4 → last < 2 → (128 : Int) ≤ s → s ≤ 191 → wholeB (a :: s :: List.replicate (n - 2) (pad last)) = false) : beginsB [a] = false := by
  by_cases hb : 194 ≤ a ∧ a ≤ 244
  · exfalso
    rcases (show (194 ≤ a ∧ a ≤ 223) ∨ (224 ≤ a ∧ a ≤ 239) ∨ (240 ≤ a ∧ a ≤ 244) by omega) with h1 | h1 | h1
    · have := h 2 0 128 (by omega) (by omega) (by omega) (by omega) (by omega)
      have w := (whole2 a 128 ha (by omega)).2 ⟨h1, by omega⟩
      simp [w] at this
    · have hl := loOf_bd a
      have := h 3 0 (loOf a) (by omega) (by omega) (by omega) (by omega) (by omega)
      have hh : loOf a ≤ hiOf a := by unfold loOf hiOf; repeat' split
                                      all_goals omega
      have w := (whole3 a (loOf a) 128 ha (by omega) (by omega)).2 ⟨h1, ⟨by omega, hh⟩, by omega⟩
      simp [pad, w] at this
    · have hl := loOf_bd a
      have := h 4 0 (loOf a) (by omega) (by omega) (by omega) (by omega) (by omega)
      have hh : loOf a ≤ hiOf a := by unfold loOf hiOf; repeat' split
                                      all_goals omega
      have w := (whole4 a (loOf a) 128 128 ha (by omega) (by omega) (by omega)).2 ⟨h1, ⟨by omega, hh⟩, by omega, by omega⟩
      simp [pad, w] at this
  · simp [beginsB]; omega
theorem begins_not (x : List Int) (hx : ∀ a ∈ x, Byte a) (h1 : 2 ≤ x.length) (h3 : x.length ≤ 3) (h : ∀ n last, x.length + 1 ≤ n → n ≤ 4 → last < 2 → wholeB (tryOf x n last) = false) : beginsB x = false := by
  match x with
  | [a, b] =>
    have ha := hx a (by simp)
    have hb := hx b (by simp)
    cases hB : beginsB [a, b]
    · rfl
    · exfalso
      simp [beginsB] at hB
      rcases (show a ≤ 239 ∨ 240 ≤ a by omega) with h1 | h1
      · have := h 3 0 (by simp) (by omega) (by omega)
        have w := (whole3 a b 128 ha hb (by omega)).2 ⟨by omega, by omega, by omega⟩
        simp [tryOf, pad, w] at this
      · have := h 4 0 (by simp) (by omega) (by omega)
        have w := (whole4 a b 128 128 ha hb (by omega) (by omega)).2 ⟨by omega, by omega, by omega, by omega⟩
        simp [tryOf, pad, w] at this
  | [a, b, c] =>
    have ha := hx a (by simp)
    have hb := hx b (by simp)
    have hc := hx c (by simp)
    cases hB : beginsB [a, b, c]
    · rfl
    · exfalso
      simp [beginsB] at hB
      have := h 4 0 (by simp) (by omega) (by omega)
      have w := (whole4 a b c 128 ha hb hc (by omega)).2 ⟨by omega, by omega, by omega, by omega⟩
      simp [tryOf, pad, w] at this

/-! ### The two decoders go together -/
def Rel (s : DS) (o : List Int) : Prop :=
  (o = [] ∧ s.need = 0) ∨
  (∃ a, o = [a] ∧ Byte a ∧ ((194 ≤ a ∧ a ≤ 223 ∧ s.need = 1 ∧ s.n = a - 192 ∧ s.lo = 128 ∧ s.hi = 191) ∨ (224 ≤ a ∧ a ≤ 239 ∧ s.need = 2 ∧ s.n = a - 224 ∧ s.lo = loOf a ∧ s.hi = hiOf a) ∨ (240 ≤ a ∧ a ≤ 244 ∧ s.need = 3 ∧ s.n = a - 240 ∧ s.lo = loOf a ∧ s.hi = hiOf a))) ∨
  (∃ a b, o = [a, b] ∧ Byte a ∧ Byte b ∧ loOf a ≤ b ∧ b ≤ hiOf a ∧ s.lo = 128 ∧ s.hi = 191 ∧ ((224 ≤ a ∧ a ≤ 239 ∧ s.need = 1 ∧ s.n = (a - 224) * 64 + (b - 128)) ∨ (240 ≤ a ∧ a ≤ 244 ∧ s.need = 2 ∧ s.n = (a - 240) * 64 + (b - 128)))) ∨
  (∃ a b c, o = [a, b, c] ∧ Byte a ∧ Byte b ∧ Byte c ∧ loOf a ≤ b ∧ b ≤ hiOf a ∧ 128 ≤ c ∧ c ≤ 191 ∧ s.lo = 128 ∧ s.hi = 191 ∧ 240 ≤ a ∧ a ≤ 244 ∧ s.need = 1 ∧ s.n = ((a - 240) * 64 + (b - 128)) * 64 + (c - 128))

theorem rel_begin (b : Int) (hb : Byte b) : (begin_ b).1 = (rfeed0 b).1 ∧ Rel (begin_ b).2 (rfeed0 b).2 := by
  unfold Byte at hb
  unfold begin_ rfeed0
  by_cases h1 : b < 128
  · rw [if_pos h1, if_pos ((whole1 b).2 ⟨hb.1, h1⟩)]
    refine ⟨?_, .inl ⟨rfl, rfl⟩⟩
    unfold wholeN
    rw [if_pos ((whole1 b).2 ⟨hb.1, h1⟩)]
    rfl
  · have nw : ¬ wholeB [b] = true := by rw [whole1]; omega
    rw [if_neg h1, if_neg nw]
    by_cases h2 : 194 ≤ b ∧ b ≤ 223
    · rw [if_pos h2, if_pos (by simp [beginsB]; omega)]
      exact ⟨rfl, .inr (.inl ⟨b, rfl, hb, .inl ⟨h2.1, h2.2, rfl, by simp only; omega, rfl, rfl⟩⟩)⟩
    · rw [if_neg h2]
      by_cases h3 : 224 ≤ b ∧ b ≤ 239
      · rw [if_pos h3, if_pos (by simp [beginsB]; omega)]
        exact ⟨rfl, .inr (.inl ⟨b, rfl, hb, .inr (.inl ⟨h3.1, h3.2, rfl, by simp only; omega, rfl, rfl⟩)⟩)⟩
      · rw [if_neg h3]
        by_cases h4 : 240 ≤ b ∧ b ≤ 244
        · rw [if_pos h4, if_pos (by simp [beginsB]; omega)]
          exact ⟨rfl, .inr (.inl ⟨b, rfl, hb, .inr (.inr ⟨h4.1, h4.2, rfl, by simp only; omega, rfl, rfl⟩)⟩)⟩
        · rw [if_neg h4, if_neg (by simp [beginsB]; omega)]
          exact ⟨rfl, .inl ⟨rfl, rfl⟩⟩
theorem wholeN_of (x : List Int) (h : wholeB x = true) : wholeN x = num x := by unfold wholeN; rw [if_pos h]
theorem rfeed_nil (b : Int) : rfeed [] b = rfeed0 b := by
  unfold rfeed rfeed0
  simp only [List.nil_append, List.length_nil, if_true]
theorem feed_rel (s : DS) (o : List Int) (b : Int) (hb : Byte b) (h : Rel s o) : (feed s b).1 = (rfeed o b).1 ∧ Rel (feed s b).2 (rfeed o b).2 := by
  have hB := rel_begin b hb
  rcases h with ⟨rfl, h0⟩ | ⟨a, rfl, ha, hc⟩ | ⟨a, a2, rfl, ha, ha2, g1, g2, g3, g4, hc⟩ | ⟨a, a2, a3, rfl, ha, ha2, ha3, g1, g2, g3, g4, g5, g6, g7, g8, g9, g10⟩
  · rw [rfeed_nil]
    unfold feed
    rw [if_pos h0]
    exact hB
  · have hne : s.need ≠ 0 := by omega
    unfold feed
    rw [if_neg hne]
    have w2 := whole2 a b ha hb
    unfold Byte at ha hb
    by_cases hr : b < s.lo ∨ s.hi < b
    · rw [if_pos hr]
      have n1 : ¬ wholeB ([a] ++ [b]) = true := by
        rw [show [a] ++ [b] = [a, b] from rfl, w2]; omega
      have n2 : ¬ beginsB ([a] ++ [b]) = true := by
        show ¬ beginsB [a, b] = true
        simp only [beginsB, Bool.and_eq_true, decide_eq_true_eq]; omega
      unfold rfeed
      rw [if_neg n1, if_neg n2, if_neg (by simp)]
      exact ⟨by rw [hB.1], hB.2⟩
    · rw [if_neg hr]
      have hl := loOf_bd a
      have hh := hiOf_bd a
      rcases hc with ⟨c1, c2, c3, c4, c5, c6⟩ | ⟨c1, c2, c3, c4, c5, c6⟩ | ⟨c1, c2, c3, c4, c5, c6⟩
      · rw [if_pos c3]
        have w : wholeB ([a] ++ [b]) = true := w2.2 (by omega)
        unfold rfeed
        rw [if_pos w, wholeN_of _ w]
        refine ⟨?_, .inl ⟨rfl, rfl⟩⟩
        simp only [List.cons_append, List.nil_append, num, List.cons.injEq, and_true]
        omega
      · rw [if_neg (by omega)]
        have n1 : ¬ wholeB ([a] ++ [b]) = true := by
          rw [show [a] ++ [b] = [a, b] from rfl, w2]; omega
        have n2 : beginsB ([a] ++ [b]) = true := by
          show beginsB [a, b] = true
          simp only [beginsB, Bool.and_eq_true, decide_eq_true_eq]; omega
        unfold rfeed
        rw [if_neg n1, if_pos n2]
        exact ⟨rfl, .inr (.inr (.inl ⟨a, b, rfl, ha, hb, by omega, by omega, rfl, rfl, .inl ⟨c1, c2, by simp only; omega, by simp only; omega⟩⟩))⟩
      · rw [if_neg (by omega)]
        have n1 : ¬ wholeB ([a] ++ [b]) = true := by
          rw [show [a] ++ [b] = [a, b] from rfl, w2]; omega
        have n2 : beginsB ([a] ++ [b]) = true := by
          show beginsB [a, b] = true
          simp only [beginsB, Bool.and_eq_true, decide_eq_true_eq]; omega
        unfold rfeed
        rw [if_neg n1, if_pos n2]
        exact ⟨rfl, .inr (.inr (.inl ⟨a, b, rfl, ha, hb, by omega, by omega, rfl, rfl, .inr ⟨c1, c2, by simp only; omega, by simp only; omega⟩⟩))⟩
  · have hne : s.need ≠ 0 := by omega
    unfold feed
    rw [if_neg hne]
    have w3 := whole3 a a2 b ha ha2 hb
    unfold Byte at ha ha2 hb
    have hl := loOf_bd a
    have hh := hiOf_bd a
    by_cases hr : b < s.lo ∨ s.hi < b
    · rw [if_pos hr]
      have n1 : ¬ wholeB ([a, a2] ++ [b]) = true := by
        rw [show [a, a2] ++ [b] = [a, a2, b] from rfl, w3]; omega
      have n2 : ¬ beginsB ([a, a2] ++ [b]) = true := by
        show ¬ beginsB [a, a2, b] = true
        simp only [beginsB, Bool.and_eq_true, decide_eq_true_eq]; omega
      unfold rfeed
      rw [if_neg n1, if_neg n2, if_neg (by simp)]
      exact ⟨by rw [hB.1], hB.2⟩
    · rw [if_neg hr]
      rcases hc with ⟨c1, c2, c3, c4⟩ | ⟨c1, c2, c3, c4⟩
      · rw [if_pos c3]
        have w : wholeB ([a, a2] ++ [b]) = true := w3.2 (by omega)
        unfold rfeed
        rw [if_pos w, wholeN_of _ w]
        refine ⟨?_, .inl ⟨rfl, rfl⟩⟩
        simp only [List.cons_append, List.nil_append, num, List.cons.injEq, and_true]
        omega
      · rw [if_neg (by omega)]
        have n1 : ¬ wholeB ([a, a2] ++ [b]) = true := by
          rw [show [a, a2] ++ [b] = [a, a2, b] from rfl, w3]; omega
        have n2 : beginsB ([a, a2] ++ [b]) = true := by
          show beginsB [a, a2, b] = true
          simp only [beginsB, Bool.and_eq_true, decide_eq_true_eq]; omega
        unfold rfeed
        rw [if_neg n1, if_pos n2]
        exact ⟨rfl, .inr (.inr (.inr ⟨a, a2, b, rfl, ha, ha2, hb, g1, g2, by omega, by omega, rfl, rfl, c1, c2, by simp only; omega, by simp only; omega⟩))⟩
  · have hne : s.need ≠ 0 := by omega
    unfold feed
    rw [if_neg hne]
    have w4 := whole4 a a2 a3 b ha ha2 ha3 hb
    unfold Byte at ha ha2 ha3 hb
    have hl := loOf_bd a
    have hh := hiOf_bd a
    by_cases hr : b < s.lo ∨ s.hi < b
    · rw [if_pos hr]
      have n1 : ¬ wholeB ([a, a2, a3] ++ [b]) = true := by
        rw [show [a, a2, a3] ++ [b] = [a, a2, a3, b] from rfl, w4]; omega
      have n2 : ¬ beginsB ([a, a2, a3] ++ [b]) = true := by
        show ¬ beginsB [a, a2, a3, b] = true
        simp [beginsB]
      unfold rfeed
      rw [if_neg n1, if_neg n2, if_neg (by simp)]
      exact ⟨by rw [hB.1], hB.2⟩
    · rw [if_neg hr, if_pos g9]
      have w : wholeB ([a, a2, a3] ++ [b]) = true := w4.2 (by omega)
      unfold rfeed
      rw [if_pos w, wholeN_of _ w]
      refine ⟨?_, .inl ⟨rfl, rfl⟩⟩
      simp only [List.cons_append, List.nil_append, num, List.cons.injEq, and_true]
      omega
theorem rel_end (s : DS) (o : List Int) (h : Rel s o) : endT s = rendT o := by
  unfold endT rendT
  rcases h with ⟨rfl, h0⟩ | ⟨a, rfl, ha, hc⟩ | ⟨a, a2, rfl, ha, ha2, g1, g2, g3, g4, hc⟩ | ⟨a, a2, a3, rfl, ha, ha2, ha3, g1, g2, g3, g4, g5, g6, g7, g8, g9, g10⟩
  · simp [h0]
  · rw [if_neg (by omega)]; simp
  · rw [if_neg (by omega)]; simp
  · rw [if_neg (by omega)]; simp
theorem rel_open (s : DS) (o : List Int) (h : Rel s o) : o.length ≤ 3 ∧ ∀ a ∈ o, Byte a := by
  rcases h with ⟨rfl, h0⟩ | ⟨a, rfl, ha, hc⟩ | ⟨a, a2, rfl, ha, ha2, g1, g2, g3, g4, hc⟩ | ⟨a, a2, a3, rfl, ha, ha2, ha3, g1, g2, g3, g4, g5, g6, g7, g8, g9, g10⟩
  all_goals simp [*]
theorem told_rel (l : List Int) (hl : ∀ a ∈ l, Byte a) (s : DS) (o : List Int) (h : Rel s o) : told s l = rtold o l ∧ Rel (after s l) (rafter o l) := by
  induction l generalizing s o with
  | nil => exact ⟨rfl, h⟩
  | cons b l ih =>
    have hf := feed_rel s o b (hl b (by simp)) h
    have := ih (fun a ha => hl a (by simp [ha])) _ _ hf.2
    simp only [told, rtold, after, rafter]
    exact ⟨by rw [hf.1, this.1], this.2⟩
theorem rel_start : Rel start [] := .inl ⟨rfl, rfl⟩
theorem runes_eq (l : List Int) (hl : ∀ a ∈ l, Byte a) : runes l = rrunes l := by
  have := told_rel l hl start [] rel_start
  unfold runes rrunes
  rw [this.1, rel_end _ _ this.2]
end Go.Proofs.YtijjnpegokfidaaDoor.Utf
