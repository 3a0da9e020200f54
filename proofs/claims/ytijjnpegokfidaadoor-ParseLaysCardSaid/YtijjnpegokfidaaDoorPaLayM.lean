/- The plain law of acts' bytes: what is laid is read as it was. No program in sight. -/
import Derived.Test.YtijjnpegokfidaaDoorPaEndsM
import Derived.Test.YtijjnpegokfidaaDoorPaVal2
import Derived.Lib.ItoaNum
namespace Go.Proofs.YtijjnpegokfidaaDoor.Pa
open Utf (DS feed endT endS)

/-- A number's digits. -/
def dec (u : Nat) : List Int := if h : u < 10 then [48 + (u : Int)] else dec (u / 10) ++ [48 + ((u % 10 : Nat) : Int)]
termination_by u
decreasing_by omega
theorem dec_lt (u : Nat) (h : u < 10) : dec u = [48 + (u : Int)] := by unfold dec; rw [dif_pos h]
theorem dec_ge (u : Nat) (h : ¬ u < 10) : dec u = dec (u / 10) ++ [48 + ((u % 10 : Nat) : Int)] := by
  conv => lhs; unfold dec
  rw [dif_neg h]
theorem dec_digits (u : Nat) : (Lib.decDigits u).map (fun b => (b.toNat : Int)) = dec u := by
  induction u using Nat.strongRecOn with
  | ind u ih =>
    by_cases h : u < 10
    · rw [dec_lt u h]
      unfold Lib.decDigits
      rw [dif_pos h]
      simp
      omega
    · rw [dec_ge u h]
      unfold Lib.decDigits
      rw [dif_neg h, List.map_append, ih (u / 10) (by omega)]
      simp
      omega
theorem dec_byte (u : Nat) : ∀ x ∈ dec u, 48 ≤ x ∧ x ≤ 57 := by
  induction u using Nat.strongRecOn with
  | ind u ih =>
    by_cases h : u < 10
    · rw [dec_lt u h]
      intro x hx
      rw [List.mem_singleton.1 hx]
      omega
    · rw [dec_ge u h]
      intro x hx
      rcases List.mem_append.1 hx with hx | hx
      · exact ih (u / 10) (by omega) x hx
      · rw [List.mem_singleton.1 hx]; omega
theorem dec_len (u : Nat) (h : u ≤ 9999) : (dec u).length ≤ 4 := by
  by_cases h1 : u < 10
  · rw [dec_lt u h1]; simp
  · rw [dec_ge u h1]
    by_cases h2 : u / 10 < 10
    · rw [dec_lt _ h2]; simp
    · rw [dec_ge _ h2]
      by_cases h3 : u / 10 / 10 < 10
      · rw [dec_lt _ h3]; simp
      · rw [dec_ge _ h3, dec_lt (u / 10 / 10 / 10) (by omega)]; simp
def numsB (l : List Int) : List Int := (l.flatMap fun n => 59 :: dec n.toNat).drop 1
theorem numsB_nil : numsB [] = [] := rfl
theorem numsB_one (n : Int) : numsB [n] = dec n.toNat := by simp [numsB]
theorem numsB_snoc (l : List Int) (n : Int) (h : l ≠ []) : numsB (l ++ [n]) = numsB l ++ 59 :: dec n.toNat := by
  unfold numsB
  rw [List.flatMap_append]
  cases l with
  | nil => exact absurd rfl h
  | cons a l => simp
theorem numsB_len (l : List Int) (h : ∀ n ∈ l, 0 ≤ n ∧ n ≤ 9999) : (numsB l).length ≤ 5 * l.length := by
  have h1 : (l.flatMap fun n => 59 :: dec n.toNat).length ≤ 5 * l.length := by
    induction l with
    | nil => simp
    | cons a l ih =>
      have := ih (fun n hn => h n (List.mem_cons_of_mem _ hn))
      have h2 := h a (List.mem_cons_self ..)
      have := dec_len a.toNat (by omega)
      simp only [List.flatMap_cons, List.length_append, List.length_cons]
      omega
  unfold numsB
  simp only [List.length_drop]
  omega
def firstM (m : Int) : Bool := decide (60 ≤ m) && decide (m ≤ 63)
def special (f : Int) : Bool := f == 91 || f == 93 || f == 80 || f == 88 || f == 94 || f == 95
def csiH (a : TAct) : List Int := [27, 91] ++ (if firstM a.mark then [a.mark] else [])
def csiB (a : TAct) : List Int := csiH a ++ numsB a.params ++ (if a.mark ≠ 0 ∧ firstM a.mark = false then [a.mark] else []) ++ [a.final]
def layB (a : TAct) : List Int :=
  if a.kind = 1 then Utf.enc a.rune
  else if a.kind = 2 then [a.final]
  else if a.kind = 3 then (if a.mark = 0 then [27, a.final] else [27, a.mark, a.final])
  else if a.kind = 4 then csiB a
  else [27, 93] ++ a.text ++ [7]
structure Ok1 (a : TAct) : Prop where
  mark : a.mark = 0
  final : a.final = 0
  params : a.params = []
  text : a.text = []
  rune : 32 ≤ a.rune ∧ a.rune ≠ 127
  may : Utf.may a.rune = true
structure Ok2 (a : TAct) : Prop where
  rune : a.rune = 0
  mark : a.mark = 0
  params : a.params = []
  text : a.text = []
  final : a.final < 32 ∧ a.final ≠ 24 ∧ a.final ≠ 26 ∧ a.final ≠ 27
structure Ok3 (a : TAct) : Prop where
  rune : a.rune = 0
  params : a.params = []
  text : a.text = []
  final : 48 ≤ a.final ∧ a.final ≤ 126
  mark : (a.mark = 0 ∧ special a.final = false) ∨ (32 ≤ a.mark ∧ a.mark ≤ 47)
structure Ok4 (a : TAct) : Prop where
  rune : a.rune = 0
  text : a.text = []
  final : 64 ≤ a.final ∧ a.final ≤ 126
  mark : a.mark = 0 ∨ firstM a.mark = true ∨ (32 ≤ a.mark ∧ a.mark ≤ 47)
  plen : a.params.length ≤ 16
  params : ∀ n ∈ a.params, 0 ≤ n ∧ n ≤ 9999
structure Ok5 (a : TAct) : Prop where
  rune : a.rune = 0
  mark : a.mark = 0
  final : a.final = 0
  params : a.params = []
  tlen : a.text.length ≤ 256
  text : ∀ x ∈ a.text, 32 ≤ x
def LayOk (a : TAct) : Prop := (a.kind = 1 ∧ Ok1 a) ∨ (a.kind = 2 ∧ Ok2 a) ∨ (a.kind = 3 ∧ Ok3 a) ∨ (a.kind = 4 ∧ Ok4 a) ∨ (a.kind = 5 ∧ Ok5 a)
theorem csiB_len (a : TAct) (h : Ok4 a) : (csiB a).length ≤ 100 := by
  have := numsB_len a.params h.params
  have := h.plen
  unfold csiB csiH
  repeat' split
  all_goals simp only [List.length_append, List.length_cons, List.length_nil]
  all_goals omega
theorem layB_len (a : TAct) (h : LayOk a) : (layB a).length ≤ 300 := by
  unfold layB
  rcases h with ⟨k, h⟩ | ⟨k, h⟩ | ⟨k, h⟩ | ⟨k, h⟩ | ⟨k, h⟩
  · rw [if_pos k]; have := Utf.enc_le a.rune; omega
  · rw [if_neg (by omega), if_pos k]; simp
  · rw [if_neg (by omega), if_neg (by omega), if_pos k]; split <;> simp
  · rw [if_neg (by omega), if_neg (by omega), if_neg (by omega), if_pos k]; have := csiB_len a h; omega
  · rw [if_neg (by omega), if_neg (by omega), if_neg (by omega), if_neg (by omega)]; have := h.tlen; simp only [List.length_append, List.length_cons, List.length_nil]; omega

theorem told_app (s : PS) (a l : List Int) : told s (a ++ l) = told s a ++ told (after s a) l := by
  induction a generalizing s with
  | nil => rfl
  | cons b a ih => simp [told, after, ih]
theorem after_app (s : PS) (a l : List Int) : after s (a ++ l) = after (after s a) l := by
  induction a generalizing s with
  | nil => rfl
  | cons b a ih => simp [after, ih]
/-- What is fed leads to a state that tells as a new one, and tells just these. -/
def Goes (s : PS) (l : List Int) (t : List TAct) : Prop := told s l = t ∧ Alike (after s l) start
theorem alike_refl (s : PS) : Alike s s := ⟨rfl, .inl rfl, fun _ => rfl, fun _ => ⟨rfl, rfl, rfl⟩, fun _ => ⟨rfl, rfl⟩⟩
theorem alike_trans {s t u : PS} (h : Alike s t) (h2 : Alike t u) : Alike s u := by
  refine ⟨h.st.trans h2.st, ?_, fun x => (h.mark x).trans (h2.mark (by rw [← h.st]; exact x)), fun x => ?_, fun x => ?_⟩
  · rcases h.d with e | ⟨e1, e2⟩
    · rcases h2.d with f | ⟨f1, f2⟩
      · exact .inl (e.trans f)
      · exact .inr ⟨by rw [e]; exact f1, f2⟩
    · rcases h2.d with f | ⟨f1, f2⟩
      · exact .inr ⟨e1, by rw [← f]; exact e2⟩
      · exact .inr ⟨e1, f2⟩
  · have a := h.csi x
    have b := h2.csi (by rw [← h.st]; exact x)
    exact ⟨a.1.trans b.1, a.2.1.trans b.2.1, a.2.2.trans b.2.2⟩
  · have a := h.txt x
    have b := h2.txt (by rw [← h.st]; exact x)
    exact ⟨a.1.trans b.1, a.2.trans b.2⟩
theorem alike_after (l : List Int) {s t : PS} (h : Alike s t) : Alike (after s l) (after t l) := by
  induction l generalizing s t with
  | nil => exact h
  | cons b l ih => exact ih (alike_feed b h).2
/-- Bytes of a rune are letters that the ground tells on. -/
theorem told_plain (l : List Int) (s : PS) (h0 : s.st = 0) (hl : ∀ b ∈ l, 32 ≤ b ∧ b ≠ 127) : told s l = prints (Utf.told s.d l) ∧ after s l = { s with d := Utf.after s.d l } := by
  induction l generalizing s with
  | nil => exact ⟨rfl, rfl⟩
  | cons b l ih =>
    have hb := hl b (List.mem_cons_self ..)
    have hf : feedP s b = (prints (feed s.d b).1, { s with d := (feed s.d b).2 }) := by
      unfold feedP plain
      rw [if_neg (by omega), if_pos h0, if_neg (by omega), if_neg (by omega)]
    obtain ⟨i1, i2⟩ := ih { s with d := (feed s.d b).2 } h0 (fun x hx => hl x (List.mem_cons_of_mem _ hx))
    simp only [told, after, hf, i1, i2, Utf.told, Utf.after]
    exact ⟨by unfold prints; rw [List.map_append], trivial⟩
theorem goes1 (a : TAct) (h : Ok1 a) (hk : a.kind = 1) : Goes start (layB a) [a] := by
  have hl : ∀ b ∈ Utf.enc a.rune, 32 ≤ b ∧ b ≠ 127 := by
    intro b hb
    have hm := h.rune
    rw [Utf.enc_eq, show Utf.fix a.rune = a.rune by unfold Utf.fix; rw [if_pos h.may]] at hb
    rcases Utf.enc_cases a.rune h.may with ⟨x, e, i⟩ | ⟨x, y, e, i⟩ | ⟨x, y, z, e, i⟩ | ⟨x, y, z, u, e, i⟩
    all_goals
      rw [e] at hb
      simp at hb
      omega
  obtain ⟨t1, t2⟩ := told_plain _ start rfl hl
  obtain ⟨u1, u2⟩ := Utf.told_enc start.d rfl a.rune
  unfold Goes layB
  rw [if_pos hk, t1, t2, u1]
  refine ⟨?_, .ground rfl rfl (.inr ⟨u2, rfl⟩)⟩
  have e : Utf.fix a.rune = a.rune := by unfold Utf.fix; rw [if_pos h.may]
  rw [e]
  obtain ⟨k, r, m, f, p, t⟩ := a
  have h1 := h.mark
  have h2 := h.final
  have h3 := h.params
  have h4 := h.text
  simp only at h1 h2 h3 h4 hk
  subst h1 h2 h3 h4 hk
  rfl
theorem goes2 (a : TAct) (h : Ok2 a) (hk : a.kind = 2) : Goes start (layB a) [a] := by
  have hf : feedP start a.final = ([c0 a.final], start) := by
    have := h.final
    unfold feedP plain
    rw [if_neg (by omega), if_pos (show start.st = 0 from rfl), if_pos (by omega)]
    rfl
  unfold Goes layB
  rw [if_neg (by omega), if_pos hk]
  simp only [told, after, hf]
  refine ⟨?_, alike_refl _⟩
  obtain ⟨k, r, m, f, p, t⟩ := a
  have h1 := h.mark
  have h2 := h.rune
  have h3 := h.params
  have h4 := h.text
  simp only at h1 h2 h3 h4 hk
  subst h1 h2 h3 h4 hk
  rfl
theorem feed_esc27 (s : PS) (h : s.st = 0) (hd : s.d.need = 0) : feedP s 27 = ([], { s with st := 1, mark := 0 }) := by
  unfold feedP endT endS osc
  rw [if_pos rfl, if_pos hd, if_pos hd, if_neg (by omega)]
  rfl
theorem feed_seq (s : PS) (b : Int) (hs : s.st = 1 ∨ s.st = 3) (hb : 32 ≤ b ∧ b ≤ 126) : feedP s b = sequence s b := by
  unfold feedP
  rw [if_neg (by omega), if_neg (by omega), if_neg (by omega), if_neg (by omega), if_neg (by omega), if_neg (by omega), if_neg (by omega)]
def s1 : PS := { start with st := 1, mark := 0 }
theorem goes3 (a : TAct) (h : Ok3 a) (hk : a.kind = 3) : Goes start (layB a) [a] := by
  have h27 : feedP start 27 = ([], s1) := feed_esc27 start rfl rfl
  have hfin := h.final
  have hr := h.rune
  have hp := h.params
  have ht := h.text
  have hmk := h.mark
  unfold Goes layB
  rw [if_neg (by omega), if_neg (by omega), if_pos hk]
  obtain ⟨k, r, m, f, p, t⟩ := a
  simp only at hr hp ht hk hfin hmk ⊢
  subst hr hp ht hk
  rcases hmk with ⟨rfl, hs⟩ | hm
  · have hf : feedP s1 f = ([⟨3, 0, 0, f, [], []⟩], { s1 with st := 0 }) := by
      have hs' : f ≠ 91 ∧ f ≠ 93 ∧ f ≠ 80 ∧ f ≠ 88 ∧ f ≠ 94 ∧ f ≠ 95 := by
        unfold special at hs
        simp at hs
        omega
      rw [feed_seq s1 f (.inl rfl) (by omega)]
      unfold sequence escaped
      rw [if_pos (show s1.st = 1 from rfl), if_neg (by omega), if_neg (by omega), if_neg (by omega), if_neg (by omega)]
      rfl
    rw [if_pos rfl]
    simp only [told, after, h27, hf]
    exact ⟨by first | rfl | trivial, .ground rfl rfl (.inl rfl)⟩
  · have hm1 : feedP s1 m = ([], { s1 with mark := m }) := by
      rw [feed_seq s1 m (.inl rfl) (by omega)]
      unfold sequence escaped
      rw [if_pos (show s1.st = 1 from rfl), if_pos (by omega), if_neg (by decide)]
    have hf : feedP { s1 with mark := m } f = ([⟨3, 0, m, f, [], []⟩], { s1 with mark := m, st := 0 }) := by
      rw [feed_seq _ f (.inl rfl) (by omega)]
      unfold sequence escaped
      have hne : ¬ m = 0 := by omega
      rw [if_pos (show ({ s1 with mark := m } : PS).st = 1 from rfl), if_neg (by omega), if_neg (fun x => hne x.1), if_neg (fun x => hne x.1), if_neg (fun x => hne x.1)]
    rw [if_neg (by omega)]
    simp only [told, after, h27, hm1, hf]
    exact ⟨by first | rfl | trivial, .ground rfl rfl (.inl rfl)⟩
theorem feed_num (s : PS) (b : Int) (hs : s.st = 3) (hm : s.middle = false) (hb : 48 ≤ b ∧ b ≤ 59) : feedP s b = ([], { number s b with begun := true }) := by
  rw [feed_seq s b (.inr hs) (by omega)]
  unfold sequence controlled
  have hl : lostB s b = false := by
    unfold lostB
    rw [hm]
    simp
    omega
  rw [if_neg (by omega), if_pos hs, if_neg (by omega), hl, if_neg (by decide), if_neg (by omega), if_neg (by omega)]
theorem number_digit (s : PS) (q : List Int) (n : Int) (d : Int) (hf : first s.params = q ++ [n]) (hd : 0 ≤ d ∧ d ≤ 9) (hn : 10 * n + d ≤ 9999) : number s (48 + d) = { s with params := q ++ [10 * n + d] } := by
  unfold number
  rw [if_pos (by omega), hf]
  have e : (q ++ [n]).getD ((q ++ [n]).length - 1) 0 = n := by simp [List.getD_eq_getElem?_getD]
  have e2 : setLast (q ++ [n]) (10 * n + d) = q ++ [10 * n + d] := by simp [setLast]
  rw [e, show 48 + d - 48 = d by omega, show min (10 * n + d) 9999 = 10 * n + d by omega, e2]
theorem first_snoc (q : List Int) (n : Int) : first (q ++ [n]) = q ++ [n] := by
  unfold first
  rw [if_neg (by simp)]
theorem fed_dec (u : Nat) : ∀ (s : PS) (q : List Int), s.st = 3 → s.middle = false → first s.params = q ++ [0] → u ≤ 9999 → told s (dec u) = [] ∧ after s (dec u) = { s with params := q ++ [(u : Int)], begun := true } := by
  induction u using Nat.strongRecOn with
  | ind u ih =>
    intro s q hs hm hf hu
    by_cases h : u < 10
    · rw [dec_lt u h]
      have h1 := feed_num s (48 + (u : Int)) hs hm (by omega)
      rw [number_digit s q 0 u hf (by omega) (by omega), show (10 * 0 + (u : Int)) = u by omega] at h1
      simp only [told, after, h1]
      exact ⟨rfl, trivial⟩
    · rw [dec_ge u h, told_app, after_app]
      obtain ⟨i1, i2⟩ := ih (u / 10) (by omega) s q hs hm hf (by omega)
      rw [i1, i2]
      have h1 := feed_num { s with params := q ++ [((u / 10 : Nat) : Int)], begun := true } (48 + ((u % 10 : Nat) : Int)) hs hm (by omega)
      rw [number_digit _ q ((u / 10 : Nat) : Int) ((u % 10 : Nat) : Int) (first_snoc _ _) (by omega) (by omega), show (10 * ((u / 10 : Nat) : Int) + ((u % 10 : Nat) : Int)) = u by omega] at h1
      simp only [told, after, h1]
      exact ⟨rfl, trivial⟩
theorem fed_nums (l : List Int) : ∀ (s : PS), s.st = 3 → s.middle = false → s.params = [] → l.length ≤ 16 → (∀ n ∈ l, 0 ≤ n ∧ n ≤ 9999) → told s (numsB l) = [] ∧ after s (numsB l) = { s with params := l, begun := s.begun || !l.isEmpty } := by
  induction h : l.length generalizing l with
  | zero =>
    intro s hs hm hp _ _
    obtain rfl := List.eq_nil_of_length_eq_zero h
    obtain ⟨d, st, bg, mk, md, ps, tx, lg⟩ := s
    simp only at hp
    subst hp
    simp [numsB_nil, told, after]
  | succ k ih =>
    intro s hs hm hp hl hb
    obtain ⟨q, n, rfl⟩ : ∃ q n, l = q ++ [n] := ⟨l.dropLast, l.getLast (by rintro rfl; simp at h), (List.dropLast_concat_getLast _).symm⟩
    have hn := hb n (by simp)
    have hql : q.length = k := by simpa using h
    by_cases hq : q = []
    · subst hq
      rw [List.nil_append, numsB_one]
      obtain ⟨i1, i2⟩ := fed_dec n.toNat s [] hs hm (by rw [hp]; rfl) (by omega)
      rw [i1, i2, show ((n.toNat : Nat) : Int) = n by omega]
      simp
    · rw [numsB_snoc q n hq, told_app, after_app]
      obtain ⟨i1, i2⟩ := ih q hql s hs hm hp (by omega) (fun x hx => hb x (by simp [hx]))
      rw [i1, i2]
      have hlen : q.length - 1 < 16 := by omega
      have h59 : feedP { s with params := q, begun := s.begun || !q.isEmpty } 59 = ([], { s with params := q ++ [0], begun := true }) := by
        rw [feed_num { s with params := q, begun := s.begun || !q.isEmpty } 59 hs hm (by omega)]
        unfold number
        have hfq : first q = q := by unfold first; rw [if_neg hq]
        simp only [hfq]
        rw [if_neg (by omega), if_pos hlen]
      obtain ⟨j1, j2⟩ := fed_dec n.toNat { s with params := q ++ [0], begun := true } q hs hm (first_snoc _ _) (by omega)
      simp only [told, after, h59, j1, j2]
      rw [show ((n.toNat : Nat) : Int) = n by omega]
      simp
theorem feed_mark (s : PS) (b : Int) (hs : s.st = 3) (hm : s.mark = 0) (hb : 32 ≤ b ∧ b ≤ 47) : feedP s b = ([], { s with mark := b, middle := true, begun := true }) := by
  rw [feed_seq s b (.inr hs) (by omega)]
  unfold sequence controlled
  have hl : lostB s b = false := by
    unfold lostB
    rw [hm]
    simp
    omega
  rw [if_neg (by omega), if_pos hs, if_neg (by omega), hl, if_neg (by decide), if_pos (by omega)]
theorem feed_first (s : PS) (b : Int) (hs : s.st = 3) (hbg : s.begun = false) (hb : 60 ≤ b ∧ b ≤ 63) : feedP s b = ([], { s with mark := b, begun := true }) := by
  rw [feed_seq s b (.inr hs) (by omega)]
  unfold sequence controlled
  have hl : lostB s b = false := by
    unfold lostB
    rw [hbg]
    simp
    omega
  rw [if_neg (by omega), if_pos hs, if_neg (by omega), hl, if_neg (by decide), if_neg (by omega), if_pos (by omega)]
theorem feed_final (s : PS) (b : Int) (hs : s.st = 3) (hb : 64 ≤ b ∧ b ≤ 126) : feedP s b = ([⟨4, 0, s.mark, b, s.params.take 16, []⟩], { s with st := 0 }) := by
  rw [feed_seq s b (.inr hs) (by omega)]
  unfold sequence controlled
  rw [if_neg (by omega), if_pos hs, if_pos (by omega)]
def s3 : PS := { s1 with st := 3, begun := false, middle := false, params := [] }
theorem feed_91 : feedP s1 91 = ([], s3) := by rfl
theorem goes4 (a : TAct) (h : Ok4 a) (hk : a.kind = 4) : Goes start (layB a) [a] := by
  have h27 : feedP start 27 = ([], s1) := feed_esc27 start rfl rfl
  have hfin := h.final
  have hr := h.rune
  have hp := h.params
  have ht := h.text
  have hpl := h.plen
  have hmk := h.mark
  unfold Goes layB
  rw [if_neg (by omega), if_neg (by omega), if_neg (by omega), if_pos hk]
  obtain ⟨k, r, m, f, p, t⟩ := a
  simp only at hr hp ht hk hfin hmk hpl
  subst hr ht hk
  unfold csiB csiH
  simp only
  have htk : p.take 16 = p := List.take_of_length_le hpl
  cases hfm : firstM m
  · rw [if_neg (by decide), List.append_nil]
    obtain ⟨n1, n2⟩ := fed_nums p s3 rfl rfl rfl hpl hp
    by_cases hm0 : m = 0
    · subst hm0
      rw [if_neg (by simp), List.append_nil]
      have hf := feed_final { s3 with params := p, begun := s3.begun || !p.isEmpty } f rfl hfin
      simp only [List.cons_append, List.nil_append, told, after, h27, feed_91, told_app, after_app, n1, n2, hf, htk]
      exact ⟨by first | rfl | trivial, .ground rfl rfl (.inl rfl)⟩
    · rw [if_pos ⟨hm0, rfl⟩]
      have hmm : 32 ≤ m ∧ m ≤ 47 := by
        rcases hmk with h | h | h
        · exact absurd h hm0
        · rw [hfm] at h; cases h
        · exact h
      have hm1 := feed_mark { s3 with params := p, begun := s3.begun || !p.isEmpty } m rfl rfl hmm
      have hf := feed_final { s3 with params := p, begun := true, mark := m, middle := true } f rfl hfin
      simp only [List.cons_append, List.nil_append, told, after, h27, feed_91, told_app, after_app, n1, n2, hm1, hf, htk]
      exact ⟨by first | rfl | trivial, .ground rfl rfl (.inl rfl)⟩
  · rw [if_pos rfl, if_neg (by simp)]
    have hmm : 60 ≤ m ∧ m ≤ 63 := by unfold firstM at hfm; simpa using hfm
    have hm1 := feed_first s3 m rfl rfl hmm
    obtain ⟨n1, n2⟩ := fed_nums p { s3 with mark := m, begun := true } rfl rfl rfl hpl hp
    have hf := feed_final { s3 with params := p, begun := true, mark := m } f rfl hfin
    simp only [Bool.true_or] at n2
    simp only [List.cons_append, List.nil_append, List.append_nil, told, after, h27, feed_91, hm1, told_app, after_app, n1, n2, hf, htk]
    exact ⟨by first | rfl | trivial, .ground rfl rfl (.inl rfl)⟩
theorem fed_text (l : List Int) : ∀ (s : PS), s.st = 5 → s.text.length + l.length ≤ 256 → (∀ x ∈ l, 32 ≤ x) → told s l = [] ∧ after s l = { s with text := s.text ++ l } := by
  induction l with
  | nil => intro s _ _ _; simp [told, after]
  | cons b l ih =>
    intro s hs hl hb
    have hb1 := hb b (List.mem_cons_self ..)
    simp only [List.length_cons] at hl
    have hf : feedP s b = ([], { s with text := s.text ++ [b] }) := by
      unfold feedP more
      rw [if_neg (by omega), if_neg (by omega), if_neg (by omega), if_pos hs, if_neg (by omega), if_neg (by omega), if_neg (by omega)]
    obtain ⟨i1, i2⟩ := ih { s with text := s.text ++ [b] } hs (by simp; omega) (fun x hx => hb x (List.mem_cons_of_mem _ hx))
    simp only [told, after, hf, i1, i2]
    simp
def s5 : PS := { s1 with st := 5, text := [], long := false }
theorem feed_93 : feedP s1 93 = ([], s5) := by rfl
theorem feed_7 (s : PS) (hs : s.st = 5) (hl : s.long = false) : feedP s 7 = ([⟨5, 0, 0, 0, [], s.text⟩], { s with st := 0 }) := by
  unfold feedP more osc
  rw [if_neg (by decide), if_neg (by omega), if_neg (by decide), if_pos hs, if_pos rfl, if_pos ⟨hs, hl⟩]
theorem goes5 (a : TAct) (h : Ok5 a) (hk : a.kind = 5) : Goes start (layB a) [a] := by
  have h27 : feedP start 27 = ([], s1) := feed_esc27 start rfl rfl
  have hr := h.rune
  have hm := h.mark
  have hfin := h.final
  have hp := h.params
  have ht := h.text
  have htl := h.tlen
  unfold Goes layB
  rw [if_neg (by omega), if_neg (by omega), if_neg (by omega), if_neg (by omega)]
  obtain ⟨k, r, m, f, p, t⟩ := a
  simp only at hr hm hp ht hk hfin htl ⊢
  subst hr hm hfin hp hk
  obtain ⟨i1, i2⟩ := fed_text t s5 rfl (by simpa [s5] using htl) ht
  have h7 := feed_7 { s5 with text := s5.text ++ t } rfl rfl
  simp only [List.cons_append, List.nil_append, told, after, h27, feed_93, told_app, after_app, i1, i2, h7]
  exact ⟨by first | rfl | trivial, .ground rfl rfl (.inl rfl)⟩
theorem lay_goes (a : TAct) (h : LayOk a) : Goes start (layB a) [a] := by
  rcases h with ⟨k, h⟩ | ⟨k, h⟩ | ⟨k, h⟩ | ⟨k, h⟩ | ⟨k, h⟩
  · exact goes1 a h k
  · exact goes2 a h k
  · exact goes3 a h k
  · exact goes4 a h k
  · exact goes5 a h k
theorem acts_lays (L : List TAct) (h : ∀ a ∈ L, LayOk a) : Goes start (L.flatMap layB) L := by
  induction L with
  | nil => exact ⟨rfl, alike_refl _⟩
  | cons a L ih =>
    obtain ⟨h1, h2⟩ := lay_goes a (h a (List.mem_cons_self ..))
    obtain ⟨i1, i2⟩ := ih (fun x hx => h x (List.mem_cons_of_mem _ hx))
    unfold Goes
    rw [List.flatMap_cons, told_app, after_app, h1, alike_told _ h2, i1]
    exact ⟨rfl, alike_trans (alike_after _ h2) i2⟩
end Go.Proofs.YtijjnpegokfidaaDoor.Pa
