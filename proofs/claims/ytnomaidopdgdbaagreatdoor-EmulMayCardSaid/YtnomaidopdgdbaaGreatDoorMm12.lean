/- Texts of this claim, merged by a program of this claim: LinkM. -/
import Derived.Test.YtnomaidopdgdbaaGreatDoorMm11
namespace Go.Proofs.YtnomaidopdgdbaaGreatDoor
set_option linter.unusedVariables false
set_option linter.unusedSimpArgs false
section
open Go.RowKit
theorem cAt_of {L : List CD} {i : Nat} {c : CD} (h : L[i]? = some c) : cAt L i = c := by simp [cAt, List.getD_eq_getElem?_getD, h]
def CD.withLink (c : CD) (v : Int) : CD := ⟨c.rune, c.wide, c.fg, c.bg, c.attrs, v⟩
def sameS (a b : ByteArray) : Bool := a.toList == b.toList
theorem sameS_iff {a b : ByteArray} : sameS a b = true ↔ a = b := by
  unfold sameS
  rw [beq_iff_eq, ByteArray.toList_eq, ByteArray.toList_eq]
  constructor
  · intro h
    obtain ⟨x⟩ := a
    obtain ⟨y⟩ := b
    simp only [Array.toList_inj] at h
    rw [h]
  · intro h
    rw [h]
theorem sameS_false {a b : ByteArray} : sameS a b = false ↔ a ≠ b := by
  rw [← Bool.not_eq_true, sameS_iff]
theorem sameS_self (a : ByteArray) : sameS a a = true := sameS_iff.2 rfl
def placeS : List ByteArray → ByteArray → Int
  | [], _ => -1
  | x :: l, s => if sameS x s then 0 else let k := placeS l s; if k < 0 then -1 else k + 1
theorem placeS_at : ∀ (l : List ByteArray) (s : ByteArray) (k : Nat), (∀ (j : Nat) (x : ByteArray), j < k → l[j]? = some x → sameS x s = false) → ∀ x, l[k]? = some x → sameS x s = true → placeS l s = k
  | [], s, k, h, x, hx, hs => by simp at hx
  | y :: l, s, 0, h, x, hx, hs => by
    simp at hx
    subst hx
    simp [placeS, hs]
  | y :: l, s, k + 1, h, x, hx, hs => by
    have h0 := h 0 y (by omega) rfl
    have ih := placeS_at l s k (fun j x hj hx => h (j + 1) x (by omega) (by simpa using hx)) x (by simpa using hx) hs
    simp only [placeS, h0, ih]
    rw [if_neg (by simp), if_neg (by omega)]
    rfl
theorem placeS_no : ∀ (l : List ByteArray) (s : ByteArray), (∀ (j : Nat) (x : ByteArray), l[j]? = some x → sameS x s = false) → placeS l s = -1
  | [], s, h => rfl
  | y :: l, s, h => by
    have h0 := h 0 y rfl
    have ih := placeS_no l s (fun j x hx => h (j + 1) x (by simpa using hx))
    simp [placeS, h0, ih]
theorem placeS_lo : ∀ (l : List ByteArray) (s : ByteArray), -1 ≤ placeS l s ∧ placeS l s < l.length
  | [], s => by simp [placeS]
  | y :: l, s => by
    have ih := placeS_lo l s
    simp only [placeS, List.length_cons]
    split
    · omega
    · split <;> omega
theorem placeS_mem (l : List ByteArray) (s : ByteArray) : 0 ≤ placeS l s ↔ s ∈ l := by
  induction l with
  | nil => simp [placeS]
  | cons y l ih =>
    simp only [placeS, List.mem_cons]
    cases h : sameS y s
    · have : s ≠ y := fun e => by rw [e, sameS_self] at h; cases h
      simp only [this, false_or, ← ih]
      simp
      split <;> omega
    · have : s = y := (sameS_iff.1 h).symm
      simp [this]
theorem placeS_get (l : List ByteArray) (s : ByteArray) (k : Nat) (h : placeS l s = k) : l[k]? = some s := by
  induction l generalizing k with
  | nil => simp [placeS] at h
  | cons y l ih =>
    simp only [placeS] at h
    cases hs : sameS y s
    · simp only [hs] at h
      simp at h
      split at h
      · omega
      · obtain ⟨m, rfl⟩ : ∃ m, k = m + 1 := ⟨k - 1, by omega⟩
        rw [List.getElem?_cons_succ]
        exact ih m (by omega)
    · simp only [hs] at h
      simp at h
      obtain rfl : k = 0 := by omega
      rw [sameS_iff.1 hs]
      rfl
def linkB (s : ByteArray) : Bool := decide (1 ≤ s.size) && decide (s.size ≤ 64) && (List.range s.size).all (fun i => decide (33 ≤ (s.data.toList.getD i 0).toNat) && decide ((s.data.toList.getD i 0).toNat ≤ 126))
def sAt (l : List ByteArray) (i : Nat) : ByteArray := l.getD i ⟨#[]⟩
theorem sAt_of {l : List ByteArray} {i : Nat} {s : ByteArray} (h : l[i]? = some s) : sAt l i = s := by simp [sAt, List.getD_eq_getElem?_getD, h]
def linkAt (l : List ByteArray) (i : Nat) : Bool := linkB (sAt l i) && !decide (0 ≤ placeS (l.take i) (sAt l i))
def topOf (m : Nat) : List CD → Option Int
  | L => L.foldl (fun t c => t.bind fun t => if t + 1 < c.link ∨ (m : Int) < c.link then none else some (max t c.link)) (some 0)
theorem topOf_snoc (m : Nat) (L : List CD) (c : CD) : topOf m (L ++ [c]) = (topOf m L).bind fun t => if t + 1 < c.link ∨ (m : Int) < c.link then none else some (max t c.link) := by simp [topOf]
theorem topOf_none (m : Nat) (L M : List CD) (h : topOf m L = none) : topOf m (L ++ M) = none := by
  induction M generalizing L with
  | nil => simpa using h
  | cons c M ih =>
    rw [show L ++ c :: M = (L ++ [c]) ++ M by simp]
    exact ih _ (by rw [topOf_snoc, h]; rfl)
def linksB (L : List CD) (l : List ByteArray) : Bool := decide (l.length ≤ 16) && (List.range l.length).all (linkAt l) && decide (topOf l.length L = some (l.length : Int))
theorem take_snoc_get {α : Type} {l : List α} {k : Nat} {x : α} (h : l[k]? = some x) : l.take (k + 1) = l.take k ++ [x] := by
  rw [List.take_add_one, h]
  rfl
def emptyS : ByteArray := ⟨#[]⟩
def leadsS (l : List ByteArray) (v : Int) : ByteArray := if v = 0 ∨ (l.length : Int) < v then emptyS else if linkB (sAt l (v - 1).toNat) then sAt l (v - 1).toNat else emptyS
theorem linkB_ne {s : ByteArray} (h : linkB s = true) : s ≠ emptyS := by
  rintro rfl
  have : linkB emptyS = false := by decide
  rw [this] at h
  cases h
theorem isEmpty_iff (s : ByteArray) : s.toList.isEmpty = true ↔ s = emptyS := by
  rw [← sameS_iff, List.isEmpty_iff]
  unfold sameS
  rw [beq_iff_eq]
  have : emptyS.toList = [] := by rw [ByteArray.toList_eq]; rfl
  rw [this]
theorem snoc_ind {α : Type} {P : List α → Prop} (h0 : P []) (hs : ∀ L c, P L → P (L ++ [c])) (L : List α) : P L := by
  have h : ∀ M : List α, P M.reverse := fun M => by
    induction M with
    | nil => exact h0
    | cons c M ih => rw [List.reverse_cons]; exact hs _ _ ih
  have := h L.reverse
  rwa [List.reverse_reverse] at this
def rlStep (l acc : List ByteArray) (c : CD) : List ByteArray := if leadsS l c.link ≠ emptyS ∧ placeS acc (leadsS l c.link) < 0 then acc ++ [leadsS l c.link] else acc
def canonL (l : List ByteArray) (L : List CD) : List ByteArray := L.foldl (rlStep l) []
def canonN (l m : List ByteArray) (v : Int) : Int := if leadsS l v = emptyS then 0 else placeS m (leadsS l v) + 1
def canonC (l m : List ByteArray) (c : CD) : CD := c.withLink (canonN l m c.link)
theorem canonL_snoc (l : List ByteArray) (L : List CD) (c : CD) : canonL l (L ++ [c]) = rlStep l (canonL l L) c := by simp [canonL]
theorem rlStep_pre (l acc : List ByteArray) (c : CD) : acc <+: rlStep l acc c := by
  unfold rlStep
  split
  · exact List.prefix_append _ _
  · exact List.prefix_rfl
theorem canonL_pre (l : List ByteArray) (L M : List CD) : canonL l L <+: canonL l (L ++ M) := by
  induction M using snoc_ind with
  | h0 => rw [List.append_nil]; exact List.prefix_rfl
  | hs M c ih =>
    rw [← List.append_assoc, canonL_snoc]
    exact ih.trans (rlStep_pre _ _ _)
theorem placeS_neg {m : List ByteArray} {s : ByteArray} : placeS m s < 0 ↔ s ∉ m := by
  rw [← placeS_mem]
  have := placeS_lo m s
  omega
theorem placeS_pre : ∀ {m m' : List ByteArray} {s : ByteArray}, m <+: m' → s ∈ m → placeS m' s = placeS m s
  | [], m', s, _, hs => by cases hs
  | y :: m, m', s, ⟨t, ht⟩, hs => by
    subst ht
    simp only [List.cons_append, placeS]
    cases he : sameS y s
    · have h2 : s ∈ m := by
        rcases List.mem_cons.1 hs with e | e
        · rw [← e, sameS_self] at he; cases he
        · exact e
      rw [placeS_pre (List.prefix_append m t) h2]
    · rfl
def ApartS (l : List ByteArray) : Prop := ∀ (i : Nat) (s : ByteArray), l[i]? = some s → placeS l s = i
theorem apart_snoc {m : List ByteArray} {s : ByteArray} (h : ApartS m) (hs : placeS m s < 0) : ApartS (m ++ [s]) := fun i x hx => by
  rcases Nat.lt_or_ge i m.length with hi | hi
  · rw [List.getElem?_append_left hi] at hx
    rw [placeS_pre (List.prefix_append m [s]) (List.mem_of_getElem? hx)]
    exact h i x hx
  · rw [List.getElem?_append_right hi] at hx
    have hi0 : i - m.length = 0 := by
      rcases Nat.eq_zero_or_pos (i - m.length) with e | e
      · exact e
      · rw [List.getElem?_eq_none (by simp; omega)] at hx
        cases hx
    rw [hi0] at hx
    simp at hx
    subst hx
    obtain rfl : i = m.length := by omega
    refine placeS_at _ _ _ (fun j y hj hy => ?_) s (by simp) (sameS_self s)
    rw [List.getElem?_append_left hj] at hy
    rw [sameS_false]
    rintro rfl
    exact (placeS_neg.1 hs) (List.mem_of_getElem? hy)
theorem canonL_apart (l : List ByteArray) (L : List CD) : ApartS (canonL l L) := by
  induction L using snoc_ind with
  | h0 => intro i s h; simp [canonL] at h
  | hs L c ih =>
    rw [canonL_snoc]
    unfold rlStep
    split
    · rename_i h
      exact apart_snoc ih h.2
    · exact ih
theorem leadsS_of {l : List ByteArray} {v : Int} (h : leadsS l v ≠ emptyS) : v ≠ 0 ∧ v ≤ l.length ∧ linkB (leadsS l v) = true ∧ leadsS l v = sAt l (v - 1).toNat := by
  by_cases h0 : v = 0 ∨ (l.length : Int) < v
  · exact absurd (by unfold leadsS; rw [if_pos h0]) h
  · cases hb : linkB (sAt l (v - 1).toNat)
    · exact absurd (by unfold leadsS; rw [if_neg h0, hb]; rfl) h
    · have key : leadsS l v = sAt l (v - 1).toNat := by unfold leadsS; rw [if_neg h0, if_pos hb]
      exact ⟨fun e => h0 (.inl e), by omega, by rw [key]; exact hb, key⟩
theorem canonL_link (l : List ByteArray) (L : List CD) : ∀ s ∈ canonL l L, linkB s = true := by
  induction L using snoc_ind with
  | h0 => intro s h; simp [canonL] at h
  | hs L c ih =>
    rw [canonL_snoc]
    unfold rlStep
    split
    · rename_i h
      intro s hs
      rcases List.mem_append.1 hs with e | e
      · exact ih s e
      · rw [List.mem_singleton.1 e]
        exact (leadsS_of h.1).2.2.1
    · exact ih
theorem canonL_len (l : List ByteArray) (L : List CD) : (canonL l L).length ≤ L.length := by
  induction L using snoc_ind with
  | h0 => simp [canonL]
  | hs L c ih =>
    rw [canonL_snoc]
    unfold rlStep
    split
    · simp; omega
    · simp; omega
theorem canonN_lo (l m : List ByteArray) (v : Int) : 0 ≤ canonN l m v ∧ canonN l m v ≤ m.length := by
  unfold canonN
  have := placeS_lo m (leadsS l v)
  split <;> omega
def rlinksB (L : List CD) (l : List ByteArray) : Bool := decide (l.length ≤ 16) && (List.range L.length).all (fun i => decide (canonN l (canonL l L) (cAt L i).link = (cAt L i).link)) && decide (canonL l L = l)
theorem lead_at {l : List ByteArray} {i : Nat} {s : ByteArray} (h : l[i]? = some s) (hb : linkB s = true) : leadsS l ((i : Int) + 1) = s := by
  have hi : i < l.length := (List.getElem?_eq_some_iff.1 h).1
  unfold leadsS
  rw [if_neg (by omega), show ((i : Int) + 1 - 1).toNat = i by omega, sAt_of h, if_pos hb]
theorem apart_mem {l : List ByteArray} (h : ApartS l) {i t : Nat} {s : ByteArray} (hi : l[i]? = some s) : s ∈ l.take t ↔ i < t := by
  constructor
  · intro hm
    obtain ⟨j, hj⟩ := List.getElem?_of_mem hm
    have hjt : j < t := by
      have := (List.getElem?_eq_some_iff.1 hj).1
      simp at this
      omega
    rw [List.getElem?_take_of_lt hjt] at hj
    have h1 := h j s hj
    have h2 := h i s hi
    omega
  · intro hlt
    refine List.mem_of_getElem? (i := i) ?_
    rw [List.getElem?_take_of_lt hlt]
    exact hi
theorem topOf_le {m : Nat} {L : List CD} {t : Int} (h : topOf m L = some t) : ∀ c ∈ L, c.link ≤ m := by
  induction L using snoc_ind generalizing t with
  | h0 => intro c hc; cases hc
  | hs L c ih =>
    rw [topOf_snoc] at h
    cases ht : topOf m L with
    | none => rw [ht] at h; cases h
    | some t0 =>
      rw [ht] at h
      simp only [Option.bind_some] at h
      split at h
      · cases h
      · rename_i hn
        intro x hx
        rcases List.mem_append.1 hx with e | e
        · exact ih ht x e
        · rw [List.mem_singleton.1 e]
          omega
theorem canon_top {l : List ByteArray} (hl : ∀ (i : Nat) (s : ByteArray), l[i]? = some s → linkB s = true) (ha : ApartS l) {M : List CD} {t : Int} (h0 : ∀ q ∈ M, 0 ≤ q.link) (h : topOf l.length M = some t) :
    0 ≤ t ∧ t ≤ l.length ∧ canonL l M = l.take t.toNat := by
  induction M using snoc_ind generalizing t with
  | h0 =>
    have e : t = 0 := by
      have : topOf l.length [] = some 0 := rfl
      rw [this] at h
      exact (Option.some.inj h).symm
    subst e
    exact ⟨by omega, by omega, rfl⟩
  | hs M c ih =>
    rw [topOf_snoc] at h
    cases ht : topOf l.length M with
    | none => rw [ht] at h; cases h
    | some t0 =>
      rw [ht] at h
      simp only [Option.bind_some] at h
      obtain ⟨i1, i2, i3⟩ := ih (fun q hq => h0 q (List.mem_append_left _ hq)) ht
      have hc := h0 c (by simp)
      split at h
      · cases h
      · rename_i hn
        have ht1 : t = max t0 c.link := (Option.some.inj h).symm
        refine ⟨by omega, by omega, ?_⟩
        rw [canonL_snoc, i3]
        unfold rlStep
        by_cases hz : c.link = 0
        · rw [if_neg (fun e => (leadsS_of e.1).1 hz)]
          congr 1
          omega
        · obtain ⟨k, hk⟩ : ∃ k : Nat, c.link = (k : Int) + 1 := ⟨(c.link - 1).toNat, by omega⟩
          obtain ⟨s, hs⟩ : ∃ s, l[k]? = some s := ⟨_, List.getElem?_eq_getElem (by omega)⟩
          have hle : leadsS l c.link = s := by rw [hk]; exact lead_at hs (hl k s hs)
          have hne : s ≠ emptyS := linkB_ne (hl k s hs)
          rw [hle]
          by_cases hlt : k < t0.toNat
          · rw [if_neg (fun e => (placeS_neg.1 e.2) ((apart_mem ha hs).2 hlt))]
            congr 1
            omega
          · have hk2 : k = t0.toNat := by omega
            rw [if_pos ⟨hne, placeS_neg.2 (fun e => hlt ((apart_mem ha hs).1 e))⟩, show t.toNat = k + 1 by omega, take_snoc_get hs, hk2]
theorem top_canon {l : List ByteArray} {L : List CD} (heq : canonL l L = l) (hc : ∀ c ∈ L, canonN l l c.link = c.link) : ∀ M N : List CD, L = M ++ N → topOf l.length M = some ((canonL l M).length : Int) := by
  have hl : ∀ (i : Nat) (s : ByteArray), l[i]? = some s → linkB s = true := fun i s h => canonL_link l L s (by rw [heq]; exact List.mem_of_getElem? h)
  have ha : ApartS l := by have := canonL_apart l L; rwa [heq] at this
  intro M
  induction M using snoc_ind with
  | h0 => intro N h; rfl
  | hs M c ih =>
    intro N h
    have i1 := ih (c :: N) (by rw [h]; simp)
    have hcc := hc c (by rw [h]; simp)
    have hp : canonL l M <+: l := by
      have := canonL_pre l M (c :: N)
      rw [show M ++ c :: N = L by rw [h]; simp, heq] at this
      exact this
    have hp2 : canonL l (M ++ [c]) <+: l := by
      have := canonL_pre l (M ++ [c]) N
      rw [← h, heq] at this
      exact this
    have hpl := hp.length_le
    have htk : canonL l M = l.take (canonL l M).length := List.prefix_iff_eq_take.1 hp
    rw [topOf_snoc, i1, Option.bind_some, canonL_snoc]
    rw [canonL_snoc] at hp2
    unfold canonN at hcc
    by_cases he : leadsS l c.link = emptyS
    · have e1 : rlStep l (canonL l M) c = canonL l M := by unfold rlStep; exact if_neg (fun e => e.1 he)
      rw [if_pos he] at hcc
      rw [e1, if_neg (by omega)]
      congr 1
      omega
    · rw [if_neg he] at hcc
      obtain ⟨a1, a2, a3, a4⟩ := leadsS_of he
      have hlo := placeS_lo l (leadsS l c.link)
      obtain ⟨k, hk⟩ : ∃ k : Nat, placeS l (leadsS l c.link) = k := ⟨(placeS l (leadsS l c.link)).toNat, by omega⟩
      have hs := placeS_get l _ k hk
      by_cases hneg : placeS (canonL l M) (leadsS l c.link) < 0
      · have e1 : rlStep l (canonL l M) c = canonL l M ++ [leadsS l c.link] := by unfold rlStep; exact if_pos ⟨he, hneg⟩
        rw [e1] at hp2 ⊢
        have h1 : l[(canonL l M).length]? = some (leadsS l c.link) := by
          obtain ⟨t, ht⟩ := hp2
          have h2 : (canonL l M ++ [leadsS l c.link] ++ t)[(canonL l M).length]? = some (leadsS l c.link) := by simp
          rwa [ht] at h2
        have h2 := ha _ _ h1
        have hll := (List.getElem?_eq_some_iff.1 h1).1
        rw [if_neg (by omega), List.length_append]
        congr 1
        simp
        omega
      · have e1 : rlStep l (canonL l M) c = canonL l M := by unfold rlStep; exact if_neg (fun e => hneg e.2)
        rw [e1]
        have hm : leadsS l c.link ∈ canonL l M := (placeS_mem _ _).1 (by omega)
        rw [htk] at hm
        have hlt := (apart_mem ha hs).1 hm
        rw [if_neg (by omega)]
        congr 1
        omega
theorem links_eq (L : List CD) (l : List ByteArray) (h0 : ∀ q ∈ L, 0 ≤ q.link) : rlinksB L l = linksB L l := by
  have mem_at : ∀ i, i < L.length → cAt L i ∈ L := fun i hi => by
    rw [cAt_of (List.getElem?_eq_getElem hi)]
    exact List.getElem_mem hi
  rw [Bool.eq_iff_iff]
  unfold rlinksB linksB
  simp only [Bool.and_eq_true, decide_eq_true_eq, List.all_eq_true, List.mem_range]
  constructor
  · rintro ⟨⟨h16, hc⟩, heq⟩
    have hl : ∀ (i : Nat) (s : ByteArray), l[i]? = some s → linkB s = true := fun i s h => canonL_link l L s (by rw [heq]; exact List.mem_of_getElem? h)
    have ha : ApartS l := by have := canonL_apart l L; rwa [heq] at this
    refine ⟨⟨h16, fun i hi => ?_⟩, ?_⟩
    · have hg := List.getElem?_eq_getElem hi
      unfold linkAt
      rw [sAt_of hg, hl i _ hg]
      simp only [Bool.true_and, Bool.not_eq_true', decide_eq_false_iff_not]
      rw [placeS_mem, apart_mem ha hg]
      omega
    · have := top_canon heq (fun c hcm => by
        obtain ⟨i, hi⟩ := List.getElem?_of_mem hcm
        have := hc i (List.getElem?_eq_some_iff.1 hi).1
        rw [heq, cAt_of hi] at this
        exact this) L [] (by simp)
      rw [heq] at this
      exact this
  · rintro ⟨⟨h16, hall⟩, htop⟩
    have hl : ∀ (i : Nat) (s : ByteArray), l[i]? = some s → linkB s = true := fun i s h => by
      have := hall i (List.getElem?_eq_some_iff.1 h).1
      unfold linkAt at this
      rw [sAt_of h] at this
      simp only [Bool.and_eq_true] at this
      exact this.1
    have ha : ApartS l := fun i s h => by
      have hi := (List.getElem?_eq_some_iff.1 h).1
      have := hall i hi
      unfold linkAt at this
      rw [sAt_of h] at this
      simp only [Bool.and_eq_true, Bool.not_eq_true', decide_eq_false_iff_not] at this
      refine placeS_at l s i (fun j x hj hx => ?_) s h (sameS_self s)
      rw [sameS_false]
      rintro rfl
      refine this.2 ((placeS_mem _ _).2 (List.mem_of_getElem? (i := j) ?_))
      rw [List.getElem?_take_of_lt hj]
      exact hx
    obtain ⟨_, _, hcan⟩ := canon_top hl ha h0 htop
    have heq : canonL l L = l := by rw [hcan, Int.toNat_natCast, List.take_of_length_le (Nat.le_refl _)]
    refine ⟨⟨h16, fun i hi => ?_⟩, heq⟩
    have hm := mem_at i hi
    have h1 := h0 _ hm
    have h2 := topOf_le htop _ hm
    rw [heq]
    unfold canonN
    by_cases hz : (cAt L i).link = 0
    · rw [if_pos (by unfold leadsS; rw [if_pos (.inl hz)]), hz]
    · obtain ⟨k, hk⟩ : ∃ k : Nat, (cAt L i).link = (k : Int) + 1 := ⟨((cAt L i).link - 1).toNat, by omega⟩
      obtain ⟨s, hs⟩ : ∃ s, l[k]? = some s := ⟨_, List.getElem?_eq_getElem (by omega)⟩
      have hle : leadsS l (cAt L i).link = s := by rw [hk]; exact lead_at hs (hl k s hs)
      rw [hle, if_neg (linkB_ne (hl k s hs)), ha k s hs, hk]
end
end Go.Proofs.YtnomaidopdgdbaaGreatDoor
