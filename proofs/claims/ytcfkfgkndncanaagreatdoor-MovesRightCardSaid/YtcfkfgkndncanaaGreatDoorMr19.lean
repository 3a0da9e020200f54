/- Texts of this claim, merged by a program of this claim: LinkM. -/
import Derived.Test.YtcfkfgkndncanaaGreatDoorMr18
namespace Go.Proofs.YtcfkfgkndncanaaGreatDoor
set_option linter.unusedVariables false
set_option linter.unusedSimpArgs false
section
open Go.RowKit
theorem cAt_of {L : List CD} {i : Nat} {c : CD} (h : L[i]? = some c) : cAt L i = c := by simp [cAt, List.getD_eq_getElem?_getD, h]
def CD.withLink (c : CD) (v : Int) : CD := ⟨c.rune, c.wide, c.fg, c.bg, c.attrs, v⟩
def jeN (a b : ByteArray) : Bool := a.toList == b.toList
theorem jcK {a b : ByteArray} : jeN a b = true ↔ a = b := by
  unfold jeN
  rw [beq_iff_eq, ByteArray.toList_eq, ByteArray.toList_eq]
  constructor
  · intro h
    obtain ⟨x⟩ := a
    obtain ⟨y⟩ := b
    simp only [Array.toList_inj] at h
    rw [h]
  · intro h
    rw [h]
theorem jdx {a b : ByteArray} : jeN a b = false ↔ a ≠ b := by
  rw [← Bool.not_eq_true, jcK]
theorem jd6 (a : ByteArray) : jeN a a = true := jcK.2 rfl
def jaG : List ByteArray → ByteArray → Int
  | [], _ => -1
  | x :: l, s => if jeN x s then 0 else let k := jaG l s; if k < 0 then -1 else k + 1
theorem jdQ : ∀ (l : List ByteArray) (s : ByteArray) (k : Nat), (∀ (j : Nat) (x : ByteArray), j < k → l[j]? = some x → jeN x s = false) → ∀ x, l[k]? = some x → jeN x s = true → jaG l s = k
  | [], s, k, h, x, hx, hs => by simp at hx
  | y :: l, s, 0, h, x, hx, hs => by
    simp at hx
    subst hx
    simp [jaG, hs]
  | y :: l, s, k + 1, h, x, hx, hs => by
    have h0 := h 0 y (by omega) rfl
    have ih := jdQ l s k (fun j x hj hx => h (j + 1) x (by omega) (by simpa using hx)) x (by simpa using hx) hs
    simp only [jaG, h0, ih]
    rw [if_neg (by simp), if_neg (by omega)]
    rfl
theorem jgm : ∀ (l : List ByteArray) (s : ByteArray), (∀ (j : Nat) (x : ByteArray), l[j]? = some x → jeN x s = false) → jaG l s = -1
  | [], s, h => rfl
  | y :: l, s, h => by
    have h0 := h 0 y rfl
    have ih := jgm l s (fun j x hx => h (j + 1) x (by simpa using hx))
    simp [jaG, h0, ih]
theorem jcL : ∀ (l : List ByteArray) (s : ByteArray), -1 ≤ jaG l s ∧ jaG l s < l.length
  | [], s => by simp [jaG]
  | y :: l, s => by
    have ih := jcL l s
    simp only [jaG, List.length_cons]
    split
    · omega
    · split <;> omega
theorem jdf (l : List ByteArray) (s : ByteArray) : 0 ≤ jaG l s ↔ s ∈ l := by
  induction l with
  | nil => simp [jaG]
  | cons y l ih =>
    simp only [jaG, List.mem_cons]
    cases h : jeN y s
    · have : s ≠ y := fun e => by rw [e, jd6] at h; cases h
      simp only [this, false_or, ← ih]
      simp
      split <;> omega
    · have : s = y := (jcK.1 h).symm
      simp [this]
theorem jkP (l : List ByteArray) (s : ByteArray) (k : Nat) (h : jaG l s = k) : l[k]? = some s := by
  induction l generalizing k with
  | nil => simp [jaG] at h
  | cons y l ih =>
    simp only [jaG] at h
    cases hs : jeN y s
    · simp only [hs] at h
      simp at h
      split at h
      · omega
      · obtain ⟨m, rfl⟩ : ∃ m, k = m + 1 := ⟨k - 1, by omega⟩
        rw [List.getElem?_cons_succ]
        exact ih m (by omega)
    · simp only [hs] at h
      simp at h
      obtain rfl : k = 0 := by omega
      rw [jcK.1 hs]
      rfl
def jch (s : ByteArray) : Bool := decide (1 ≤ s.size) && decide (s.size ≤ 64) && (List.range s.size).all (fun i => decide (33 ≤ (s.data.toList.getD i 0).toNat) && decide ((s.data.toList.getD i 0).toNat ≤ 126))
def sAt (l : List ByteArray) (i : Nat) : ByteArray := l.getD i ⟨#[]⟩
theorem jj8 {l : List ByteArray} {i : Nat} {s : ByteArray} (h : l[i]? = some s) : sAt l i = s := by simp [sAt, List.getD_eq_getElem?_getD, h]
def jfq (l : List ByteArray) (i : Nat) : Bool := jch (sAt l i) && !decide (0 ≤ jaG (l.take i) (sAt l i))
def jdF (m : Nat) : List CD → Option Int
  | L => L.foldl (fun t c => t.bind fun t => if t + 1 < c.link ∨ (m : Int) < c.link then none else some (max t c.link)) (some 0)
theorem jcy (m : Nat) (L : List CD) (c : CD) : jdF m (L ++ [c]) = (jdF m L).bind fun t => if t + 1 < c.link ∨ (m : Int) < c.link then none else some (max t c.link) := by simp [jdF]
theorem jkQ (m : Nat) (L M : List CD) (h : jdF m L = none) : jdF m (L ++ M) = none := by
  induction M generalizing L with
  | nil => simpa using h
  | cons c M ih =>
    rw [show L ++ c :: M = (L ++ [c]) ++ M by simp]
    exact ih _ (by rw [jcy, h]; rfl)
def jdE (L : List CD) (l : List ByteArray) : Bool := decide (l.length ≤ 16) && (List.range l.length).all (jfq l) && decide (jdF l.length L = some (l.length : Int))
theorem jaR {α : Type} {l : List α} {k : Nat} {x : α} (h : l[k]? = some x) : l.take (k + 1) = l.take k ++ [x] := by
  rw [List.take_add_one, h]
  rfl
def emptyS : ByteArray := ⟨#[]⟩
def jaM (l : List ByteArray) (v : Int) : ByteArray := if v = 0 ∨ (l.length : Int) < v then emptyS else if jch (sAt l (v - 1).toNat) then sAt l (v - 1).toNat else emptyS
theorem jfG {s : ByteArray} (h : jch s = true) : s ≠ emptyS := by
  rintro rfl
  have : jch emptyS = false := by decide
  rw [this] at h
  cases h
theorem isEmpty_iff (s : ByteArray) : s.toList.isEmpty = true ↔ s = emptyS := by
  rw [← jcK, List.isEmpty_iff]
  unfold jeN
  rw [beq_iff_eq]
  have : emptyS.toList = [] := by rw [ByteArray.toList_eq]; rfl
  rw [this]
theorem jdy {α : Type} {P : List α → Prop} (h0 : P []) (hs : ∀ L c, P L → P (L ++ [c])) (L : List α) : P L := by
  have h : ∀ M : List α, P M.reverse := fun M => by
    induction M with
    | nil => exact h0
    | cons c M ih => rw [List.reverse_cons]; exact hs _ _ ih
  have := h L.reverse
  rwa [List.reverse_reverse] at this
def jbE (l acc : List ByteArray) (c : CD) : List ByteArray := if jaM l c.link ≠ emptyS ∧ jaG acc (jaM l c.link) < 0 then acc ++ [jaM l c.link] else acc
def canonL (l : List ByteArray) (L : List CD) : List ByteArray := L.foldl (jbE l) []
def canonN (l m : List ByteArray) (v : Int) : Int := if jaM l v = emptyS then 0 else jaG m (jaM l v) + 1
def canonC (l m : List ByteArray) (c : CD) : CD := c.withLink (canonN l m c.link)
theorem canonL_snoc (l : List ByteArray) (L : List CD) (c : CD) : canonL l (L ++ [c]) = jbE l (canonL l L) c := by simp [canonL]
theorem jkR (l acc : List ByteArray) (c : CD) : acc <+: jbE l acc c := by
  unfold jbE
  split
  · exact List.prefix_append _ _
  · exact List.prefix_rfl
theorem canonL_pre (l : List ByteArray) (L M : List CD) : canonL l L <+: canonL l (L ++ M) := by
  induction M using jdy with
  | h0 => rw [List.append_nil]; exact List.prefix_rfl
  | hs M c ih =>
    rw [← List.append_assoc, canonL_snoc]
    exact ih.trans (jkR _ _ _)
theorem jfd {m : List ByteArray} {s : ByteArray} : jaG m s < 0 ↔ s ∉ m := by
  rw [← jdf]
  have := jcL m s
  omega
theorem jkS {l acc : List ByteArray} {c : CD} (h : jaM l c.link ≠ emptyS) : jaM l c.link ∈ jbE l acc c := by
  unfold jbE
  by_cases hp : jaG acc (jaM l c.link) < 0
  · rw [if_pos ⟨h, hp⟩]
    simp
  · rw [if_neg (fun e => hp e.2)]
    exact (jdf _ _).1 (by omega)
theorem jfe : ∀ {m m' : List ByteArray} {s : ByteArray}, m <+: m' → s ∈ m → jaG m' s = jaG m s
  | [], m', s, _, hs => by cases hs
  | y :: m, m', s, ⟨t, ht⟩, hs => by
    subst ht
    simp only [List.cons_append, jaG]
    cases he : jeN y s
    · have h2 : s ∈ m := by
        rcases List.mem_cons.1 hs with e | e
        · rw [← e, jd6] at he; cases he
        · exact e
      rw [jfe (List.prefix_append m t) h2]
    · rfl
def jfr (l : List ByteArray) : Prop := ∀ (i : Nat) (s : ByteArray), l[i]? = some s → jaG l s = i
theorem jhb {m : List ByteArray} {s : ByteArray} (h : jfr m) (hs : jaG m s < 0) : jfr (m ++ [s]) := fun i x hx => by
  rcases Nat.lt_or_ge i m.length with hi | hi
  · rw [List.getElem?_append_left hi] at hx
    rw [jfe (List.prefix_append m [s]) (List.mem_of_getElem? hx)]
    exact h i x hx
  · rw [List.getElem?_append_right hi] at hx
    have hi0 : i - m.length = 0 := by
      rcases Nat.eq_zero_or_pos (i - m.length) with e | e
      · exact e
      · rw [List.getElem?_eq_none (by simp; omega)] at hx
        cases hx
    rw [hi0] at hx
    simp at hx
    subst hx
    obtain rfl : i = m.length := by omega
    refine jdQ _ _ _ (fun j y hj hy => ?_) s (by simp) (jd6 s)
    rw [List.getElem?_append_left hj] at hy
    rw [jdx]
    rintro rfl
    exact (jfd.1 hs) (List.mem_of_getElem? hy)
theorem canonL_apart (l : List ByteArray) (L : List CD) : jfr (canonL l L) := by
  induction L using jdy with
  | h0 => intro i s h; simp [canonL] at h
  | hs L c ih =>
    rw [canonL_snoc]
    unfold jbE
    split
    · rename_i h
      exact jhb ih h.2
    · exact ih
theorem jeO {l : List ByteArray} {v : Int} (h : jaM l v ≠ emptyS) : v ≠ 0 ∧ v ≤ l.length ∧ jch (jaM l v) = true ∧ jaM l v = sAt l (v - 1).toNat := by
  by_cases h0 : v = 0 ∨ (l.length : Int) < v
  · exact absurd (by unfold jaM; rw [if_pos h0]) h
  · cases hb : jch (sAt l (v - 1).toNat)
    · exact absurd (by unfold jaM; rw [if_neg h0, hb]; rfl) h
    · have key : jaM l v = sAt l (v - 1).toNat := by unfold jaM; rw [if_neg h0, if_pos hb]
      exact ⟨fun e => h0 (.inl e), by omega, by rw [key]; exact hb, key⟩
theorem canonL_link (l : List ByteArray) (L : List CD) : ∀ s ∈ canonL l L, jch s = true := by
  induction L using jdy with
  | h0 => intro s h; simp [canonL] at h
  | hs L c ih =>
    rw [canonL_snoc]
    unfold jbE
    split
    · rename_i h
      intro s hs
      rcases List.mem_append.1 hs with e | e
      · exact ih s e
      · rw [List.mem_singleton.1 e]
        exact (jeO h.1).2.2.1
    · exact ih
theorem canonL_len (l : List ByteArray) (L : List CD) : (canonL l L).length ≤ L.length := by
  induction L using jdy with
  | h0 => simp [canonL]
  | hs L c ih =>
    rw [canonL_snoc]
    unfold jbE
    split
    · simp; omega
    · simp; omega
theorem canonN_pre {l m m' : List ByteArray} {v : Int} (h : m <+: m') (hv : jaM l v ≠ emptyS → jaM l v ∈ m) : canonN l m' v = canonN l m v := by
  unfold canonN
  by_cases he : jaM l v = emptyS
  · rw [if_pos he, if_pos he]
  · rw [if_neg he, if_neg he, jfe h (hv he)]
theorem canonN_lo (l m : List ByteArray) (v : Int) : 0 ≤ canonN l m v ∧ canonN l m v ≤ m.length := by
  unfold canonN
  have := jcL m (jaM l v)
  split <;> omega
theorem canon_skip {l : List ByteArray} {L : List CD} {t : Nat} {u : CD} (hu : L[t]? = some u) (h : jaM l u.link = emptyS) : canonL l (L.take (t + 1)) = canonL l (L.take t) ∧ canonC l (canonL l L) u = u.withLink 0 := by
  rw [jaR hu, canonL_snoc]
  unfold jbE canonC canonN
  rw [if_neg (fun e => e.1 h), if_pos h]
  exact ⟨rfl, rfl⟩
theorem canon_lead {l : List ByteArray} {L : List CD} {t : Nat} {u : CD} {s : ByteArray} (hu : L[t]? = some u) (h : jaM l u.link = s) (hs : s ≠ emptyS) :
    canonC l (canonL l L) u = u.withLink (jaG (canonL l (L.take (t + 1))) s + 1) := by
  have hp : canonL l (L.take (t + 1)) <+: canonL l L := by
    have := canonL_pre l (L.take (t + 1)) (L.drop (t + 1))
    rwa [List.take_append_drop] at this
  have hm : jaM l u.link ∈ canonL l (L.take (t + 1)) := by
    rw [jaR hu, canonL_snoc]
    exact jkS (by rw [h]; exact hs)
  unfold canonC
  rw [canonN_pre hp (fun _ => hm)]
  unfold canonN
  rw [if_neg (by rw [h]; exact hs), h]
theorem canon_old {l : List ByteArray} {L : List CD} {t : Nat} {u : CD} {s : ByteArray} (hu : L[t]? = some u) (h : jaM l u.link = s) (hs : s ≠ emptyS) (hp : ¬ jaG (canonL l (L.take t)) s < 0) :
    canonL l (L.take (t + 1)) = canonL l (L.take t) ∧ canonC l (canonL l L) u = u.withLink (jaG (canonL l (L.take t)) s + 1) := by
  have e : canonL l (L.take (t + 1)) = canonL l (L.take t) := by
    rw [jaR hu, canonL_snoc]
    unfold jbE
    rw [if_neg (fun e => hp (by rw [← h]; exact e.2))]
  exact ⟨e, by rw [canon_lead hu h hs, e]⟩
theorem canon_new {l : List ByteArray} {L : List CD} {t : Nat} {u : CD} {s : ByteArray} (hu : L[t]? = some u) (h : jaM l u.link = s) (hs : s ≠ emptyS) (hp : jaG (canonL l (L.take t)) s < 0) :
    canonL l (L.take (t + 1)) = canonL l (L.take t) ++ [s] ∧ canonC l (canonL l L) u = u.withLink (((canonL l (L.take t)).length : Int) + 1) := by
  have e : canonL l (L.take (t + 1)) = canonL l (L.take t) ++ [s] := by
    rw [jaR hu, canonL_snoc]
    unfold jbE
    rw [if_pos ⟨by rw [h]; exact hs, by rw [h]; exact hp⟩, h]
  refine ⟨e, ?_⟩
  rw [canon_lead hu h hs, e, jhb (canonL_apart l (L.take t)) hp (canonL l (L.take t)).length s (by simp)]
def jdR (L : List CD) (l : List ByteArray) : Bool := decide (l.length ≤ 16) && (List.range L.length).all (fun i => decide (canonN l (canonL l L) (cAt L i).link = (cAt L i).link)) && decide (canonL l L = l)
theorem jmi {l : List ByteArray} {i : Nat} {s : ByteArray} (h : l[i]? = some s) (hb : jch s = true) : jaM l ((i : Int) + 1) = s := by
  have hi : i < l.length := (List.getElem?_eq_some_iff.1 h).1
  unfold jaM
  rw [if_neg (by omega), show ((i : Int) + 1 - 1).toNat = i by omega, jj8 h, if_pos hb]
theorem jeP {l : List ByteArray} (h : jfr l) {i t : Nat} {s : ByteArray} (hi : l[i]? = some s) : s ∈ l.take t ↔ i < t := by
  constructor
  · intro hm
    obtain ⟨j, hj⟩ := List.getElem?_of_mem hm
    have hjt : j < t := by
      have := (List.getElem?_eq_some_iff.1 hj).1
      simp at this
      omega
    rw [List.getElem?_take_of_lt hjt] at hj
    have h1 := h j s hj
    have h2 := h i s hi
    omega
  · intro hlt
    refine List.mem_of_getElem? (i := i) ?_
    rw [List.getElem?_take_of_lt hlt]
    exact hi
theorem jj9 {m : Nat} {L : List CD} {t : Int} (h : jdF m L = some t) : ∀ c ∈ L, c.link ≤ m := by
  induction L using jdy generalizing t with
  | h0 => intro c hc; cases hc
  | hs L c ih =>
    rw [jcy] at h
    cases ht : jdF m L with
    | none => rw [ht] at h; cases h
    | some t0 =>
      rw [ht] at h
      simp only [Option.bind_some] at h
      split at h
      · cases h
      · rename_i hn
        intro x hx
        rcases List.mem_append.1 hx with e | e
        · exact ih ht x e
        · rw [List.mem_singleton.1 e]
          omega
theorem canon_top {l : List ByteArray} (hl : ∀ (i : Nat) (s : ByteArray), l[i]? = some s → jch s = true) (ha : jfr l) {M : List CD} {t : Int} (h0 : ∀ q ∈ M, 0 ≤ q.link) (h : jdF l.length M = some t) :
    0 ≤ t ∧ t ≤ l.length ∧ canonL l M = l.take t.toNat := by
  induction M using jdy generalizing t with
  | h0 =>
    have e : t = 0 := by
      have : jdF l.length [] = some 0 := rfl
      rw [this] at h
      exact (Option.some.inj h).symm
    subst e
    exact ⟨by omega, by omega, rfl⟩
  | hs M c ih =>
    rw [jcy] at h
    cases ht : jdF l.length M with
    | none => rw [ht] at h; cases h
    | some t0 =>
      rw [ht] at h
      simp only [Option.bind_some] at h
      obtain ⟨i1, i2, i3⟩ := ih (fun q hq => h0 q (List.mem_append_left _ hq)) ht
      have hc := h0 c (by simp)
      split at h
      · cases h
      · rename_i hn
        have ht1 : t = max t0 c.link := (Option.some.inj h).symm
        refine ⟨by omega, by omega, ?_⟩
        rw [canonL_snoc, i3]
        unfold jbE
        by_cases hz : c.link = 0
        · rw [if_neg (fun e => (jeO e.1).1 hz)]
          congr 1
          omega
        · obtain ⟨k, hk⟩ : ∃ k : Nat, c.link = (k : Int) + 1 := ⟨(c.link - 1).toNat, by omega⟩
          obtain ⟨s, hs⟩ : ∃ s, l[k]? = some s := ⟨_, List.getElem?_eq_getElem (by omega)⟩
          have hle : jaM l c.link = s := by rw [hk]; exact jmi hs (hl k s hs)
          have hne : s ≠ emptyS := jfG (hl k s hs)
          rw [hle]
          by_cases hlt : k < t0.toNat
          · rw [if_neg (fun e => (jfd.1 e.2) ((jeP ha hs).2 hlt))]
            congr 1
            omega
          · have hk2 : k = t0.toNat := by omega
            rw [if_pos ⟨hne, jfd.2 (fun e => hlt ((jeP ha hs).1 e))⟩, show t.toNat = k + 1 by omega, jaR hs, hk2]
theorem jmj {l : List ByteArray} {L : List CD} (heq : canonL l L = l) (hc : ∀ c ∈ L, canonN l l c.link = c.link) : ∀ M N : List CD, L = M ++ N → jdF l.length M = some ((canonL l M).length : Int) := by
  have hl : ∀ (i : Nat) (s : ByteArray), l[i]? = some s → jch s = true := fun i s h => canonL_link l L s (by rw [heq]; exact List.mem_of_getElem? h)
  have ha : jfr l := by have := canonL_apart l L; rwa [heq] at this
  intro M
  induction M using jdy with
  | h0 => intro N h; rfl
  | hs M c ih =>
    intro N h
    have i1 := ih (c :: N) (by rw [h]; simp)
    have hcc := hc c (by rw [h]; simp)
    have hp : canonL l M <+: l := by
      have := canonL_pre l M (c :: N)
      rw [show M ++ c :: N = L by rw [h]; simp, heq] at this
      exact this
    have hp2 : canonL l (M ++ [c]) <+: l := by
      have := canonL_pre l (M ++ [c]) N
      rw [← h, heq] at this
      exact this
    have hpl := hp.length_le
    have htk : canonL l M = l.take (canonL l M).length := List.prefix_iff_eq_take.1 hp
    rw [jcy, i1, Option.bind_some, canonL_snoc]
    rw [canonL_snoc] at hp2
    unfold canonN at hcc
    by_cases he : jaM l c.link = emptyS
    · have e1 : jbE l (canonL l M) c = canonL l M := by unfold jbE; exact if_neg (fun e => e.1 he)
      rw [if_pos he] at hcc
      rw [e1, if_neg (by omega)]
      congr 1
      omega
    · rw [if_neg he] at hcc
      obtain ⟨a1, a2, a3, a4⟩ := jeO he
      have hlo := jcL l (jaM l c.link)
      obtain ⟨k, hk⟩ : ∃ k : Nat, jaG l (jaM l c.link) = k := ⟨(jaG l (jaM l c.link)).toNat, by omega⟩
      have hs := jkP l _ k hk
      by_cases hneg : jaG (canonL l M) (jaM l c.link) < 0
      · have e1 : jbE l (canonL l M) c = canonL l M ++ [jaM l c.link] := by unfold jbE; exact if_pos ⟨he, hneg⟩
        rw [e1] at hp2 ⊢
        have h1 : l[(canonL l M).length]? = some (jaM l c.link) := by
          obtain ⟨t, ht⟩ := hp2
          have h2 : (canonL l M ++ [jaM l c.link] ++ t)[(canonL l M).length]? = some (jaM l c.link) := by simp
          rwa [ht] at h2
        have h2 := ha _ _ h1
        have hll := (List.getElem?_eq_some_iff.1 h1).1
        rw [if_neg (by omega), List.length_append]
        congr 1
        simp
        omega
      · have e1 : jbE l (canonL l M) c = canonL l M := by unfold jbE; exact if_neg (fun e => hneg e.2)
        rw [e1]
        have hm : jaM l c.link ∈ canonL l M := (jdf _ _).1 (by omega)
        rw [htk] at hm
        have hlt := (jeP ha hs).1 hm
        rw [if_neg (by omega)]
        congr 1
        omega
theorem jn4 (L : List CD) (l : List ByteArray) (h0 : ∀ q ∈ L, 0 ≤ q.link) : jdR L l = jdE L l := by
  have mem_at : ∀ i, i < L.length → cAt L i ∈ L := fun i hi => by
    rw [cAt_of (List.getElem?_eq_getElem hi)]
    exact List.getElem_mem hi
  rw [Bool.eq_iff_iff]
  unfold jdR jdE
  simp only [Bool.and_eq_true, decide_eq_true_eq, List.all_eq_true, List.mem_range]
  constructor
  · rintro ⟨⟨h16, hc⟩, heq⟩
    have hl : ∀ (i : Nat) (s : ByteArray), l[i]? = some s → jch s = true := fun i s h => canonL_link l L s (by rw [heq]; exact List.mem_of_getElem? h)
    have ha : jfr l := by have := canonL_apart l L; rwa [heq] at this
    refine ⟨⟨h16, fun i hi => ?_⟩, ?_⟩
    · have hg := List.getElem?_eq_getElem hi
      unfold jfq
      rw [jj8 hg, hl i _ hg]
      simp only [Bool.true_and, Bool.not_eq_true', decide_eq_false_iff_not]
      rw [jdf, jeP ha hg]
      omega
    · have := jmj heq (fun c hcm => by
        obtain ⟨i, hi⟩ := List.getElem?_of_mem hcm
        have := hc i (List.getElem?_eq_some_iff.1 hi).1
        rw [heq, cAt_of hi] at this
        exact this) L [] (by simp)
      rw [heq] at this
      exact this
  · rintro ⟨⟨h16, hall⟩, htop⟩
    have hl : ∀ (i : Nat) (s : ByteArray), l[i]? = some s → jch s = true := fun i s h => by
      have := hall i (List.getElem?_eq_some_iff.1 h).1
      unfold jfq at this
      rw [jj8 h] at this
      simp only [Bool.and_eq_true] at this
      exact this.1
    have ha : jfr l := fun i s h => by
      have hi := (List.getElem?_eq_some_iff.1 h).1
      have := hall i hi
      unfold jfq at this
      rw [jj8 h] at this
      simp only [Bool.and_eq_true, Bool.not_eq_true', decide_eq_false_iff_not] at this
      refine jdQ l s i (fun j x hj hx => ?_) s h (jd6 s)
      rw [jdx]
      rintro rfl
      refine this.2 ((jdf _ _).2 (List.mem_of_getElem? (i := j) ?_))
      rw [List.getElem?_take_of_lt hj]
      exact hx
    obtain ⟨_, _, hcan⟩ := canon_top hl ha h0 htop
    have heq : canonL l L = l := by rw [hcan, Int.toNat_natCast, List.take_of_length_le (Nat.le_refl _)]
    refine ⟨⟨h16, fun i hi => ?_⟩, heq⟩
    have hm := mem_at i hi
    have h1 := h0 _ hm
    have h2 := jj9 htop _ hm
    rw [heq]
    unfold canonN
    by_cases hz : (cAt L i).link = 0
    · rw [if_pos (by unfold jaM; rw [if_pos (.inl hz)]), hz]
    · obtain ⟨k, hk⟩ : ∃ k : Nat, (cAt L i).link = (k : Int) + 1 := ⟨((cAt L i).link - 1).toNat, by omega⟩
      obtain ⟨s, hs⟩ : ∃ s, l[k]? = some s := ⟨_, List.getElem?_eq_getElem (by omega)⟩
      have hle : jaM l (cAt L i).link = s := by rw [hk]; exact jmi hs (hl k s hs)
      rw [hle, if_neg (jfG (hl k s hs)), ha k s hs, hk]
end
end Go.Proofs.YtcfkfgkndncanaaGreatDoor
