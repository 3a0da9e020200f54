/- What is under way as a list in order; the road's calls in its words. -/
import Derived.Test.YtkodmoeohffjhaaRoLate
import Derived.Test.YtkodmoeohffjhaaRoTick
namespace Go.Proofs.Ytkodmoeohffjhaa
open Go.RowKit Go.Proofs.Ytkodmoeohffjhaa.Hp
set_option linter.unusedVariables false
set_option linter.unusedSimpArgs false

/-! ### The list in order -/
def insB (d : MD) : List MD → List MD
  | [] => [d]
  | x :: F => if aheadB d x then d :: x :: F else x :: insB d F
theorem insB_perm (d : MD) : ∀ F : List MD, (insB d F).Perm (d :: F)
  | [] => List.Perm.refl _
  | x :: F => by
    unfold insB
    split
    · exact List.Perm.refl _
    · exact ((insB_perm d F).cons x).trans (List.Perm.swap _ _ _)
theorem insB_len (d : MD) (F : List MD) : (insB d F).length = F.length + 1 := by rw [(insB_perm d F).length_eq]; simp
theorem insB_mem {d x : MD} {F : List MD} : x ∈ insB d F ↔ x = d ∨ x ∈ F := by rw [(insB_perm d F).mem_iff]; simp
theorem aheadB_trans {a b c : MD} (h1 : aheadB a b = true) (h2 : aheadB b c = true) : aheadB a c = true := by rw [ahead_iff] at *; omega
theorem aheadB_tot {a b : MD} (h1 : aheadB a b = false) (h2 : a.number ≠ b.number) : aheadB b a = true := by rw [nahead_iff] at h1; rw [ahead_iff]; omega
theorem insB_sort {d : MD} : ∀ {F : List MD}, F.Pairwise (fun a b => aheadB a b = true) → (∀ x ∈ F, d.number ≠ x.number) → (insB d F).Pairwise (fun a b => aheadB a b = true)
  | [], _, _ => List.pairwise_singleton _ _
  | x :: F, h, hn => by
    unfold insB
    rw [List.pairwise_cons] at h
    cases hd : aheadB d x
    · simp only [Bool.false_eq_true, if_false]
      rw [List.pairwise_cons]
      refine ⟨fun y hy => ?_, insB_sort h.2 (fun y hy => hn y (List.mem_cons_of_mem _ hy))⟩
      rcases insB_mem.1 hy with e | e
      · rw [e]; exact aheadB_tot hd (hn x (List.mem_cons_self ..))
      · exact h.1 y e
    · simp only [if_true]
      rw [List.pairwise_cons, List.pairwise_cons]
      refine ⟨fun y hy => ?_, h.1, h.2⟩
      rcases List.mem_cons.1 hy with e | e
      · rw [e]; exact hd
      · exact aheadB_trans hd (h.1 y e)
abbrev NumF (F : List MD) : Prop := F.Pairwise (fun a b => a.number ≠ b.number)
structure FInv (now put : Int) (F : List MD) : Prop where
  sort : F.Pairwise (fun a b => aheadB a b = true)
  nums : NumF F
  num : ∀ q ∈ F, 0 ≤ q.number ∧ q.number < put
  due : ∀ q ∈ F, now < q.due ∧ q.due ≤ now + 64
  len : F.length ≤ 4096
  small : ∀ q ∈ F, q.bs.length ≤ 542
  addr : ∀ q ∈ F, 0 ≤ q.addr ∧ q.addr ≤ 255
  pos : 0 ≤ now ∧ now < 1000000 ∧ 0 ≤ put ∧ put < 1000000
abbrev Same (L : List ME) (F : List MD) : Prop := (L.map Prod.fst).Perm F
theorem nums_map {L : List ME} : Nums L ↔ NumF (L.map Prod.fst) := by unfold Nums NumF; rw [List.pairwise_map]
theorem numF_perm {F G : List MD} (h : F.Perm G) : NumF F ↔ NumF G := h.pairwise_iff (fun h => Ne.symm h)
theorem FInv.to {now put : Int} {F : List MD} {L : List ME} (h : FInv now put F) (hs : Same L F) : RInv now put L := by
  have hm : ∀ q ∈ L, q.1 ∈ F := fun q hq => hs.mem_iff.1 (List.mem_map.2 ⟨q, hq, rfl⟩)
  exact ⟨nums_map.2 ((numF_perm hs).2 h.nums), fun q hq => h.num _ (hm q hq), fun q hq => h.due _ (hm q hq), by have := hs.length_eq; have := h.len; simp at *; omega, fun q hq => h.small _ (hm q hq), fun q hq => h.addr _ (hm q hq), h.pos⟩
theorem Same.len {F : List MD} {L : List ME} (hs : Same L F) : L.length = F.length := by have := hs.length_eq; simpa using this
theorem strict_of {D : List ME} (h : D.Pairwise (fun a b => mlt b a = false)) (hn : Nums D) : (D.map Prod.fst).Pairwise (fun a b => aheadB a b = true) := by
  rw [List.pairwise_map]
  exact List.Pairwise.imp₂ (fun a b h1 h2 => aheadB_tot h1 (Ne.symm h2)) h hn
theorem F_unique {F G : List MD} (hp : F.Perm G) (hF : F.Pairwise (fun a b => aheadB a b = true)) (hG : G.Pairwise (fun a b => aheadB a b = true)) (hn : NumF F) : F = G := by
  refine List.Perm.eq_of_pairwise (le := fun a b => aheadB a b = true) (fun a b _ _ h1 h2 => ?_) hF hG hp
  rw [ahead_iff] at *
  omega
theorem ith_F {now put : Int} {F : List MD} {L : List ME} {i : Nat} {q : ME} (h : FInv now put F) (hs : Same L F) (hi : Ith L i q) : F[i]? = some q.1 := by
  obtain ⟨D, hp, hd, hq⟩ := hi
  have hn : Nums D := (hp.pairwise_iff (fun h => Ne.symm h)).2 (h.to hs).nums
  have e := F_unique ((hp.map Prod.fst).trans hs) (strict_of hd hn) h.sort (nums_map.1 hn)
  rw [← e, List.getElem?_map, hq]
  rfl
theorem FInv.add {now put : Int} {F : List MD} (h : FInv now put F) {d : MD} (hn : d.number = put) (hd : now < d.due ∧ d.due ≤ now + 64) (hl : F.length < 4096) (hb : d.bs.length ≤ 542) (ha : 0 ≤ d.addr ∧ d.addr ≤ 255) (hp : put < 999999) : FInv now (put + 1) (insB d F) := by
  have hne : ∀ x ∈ F, d.number ≠ x.number := fun x hx => by have := (h.num x hx).2; omega
  have hpos := h.pos
  refine ⟨insB_sort h.sort hne, (numF_perm (insB_perm d F)).2 (List.pairwise_cons.2 ⟨hne, h.nums⟩), fun q hq => ?_, fun q hq => ?_, by rw [insB_len]; omega, fun q hq => ?_, fun q hq => ?_, by omega⟩
  · rcases insB_mem.1 hq with e | e
    · rw [e, hn]; omega
    · have := h.num q e; omega
  · rcases insB_mem.1 hq with e | e
    · rw [e]; exact hd
    · exact h.due q e
  · rcases insB_mem.1 hq with e | e
    · rw [e]; exact hb
    · exact h.small q e
  · rcases insB_mem.1 hq with e | e
    · rw [e]; exact ha
    · exact h.addr q e

/-! ### The road in memory, in these words -/
/-- Blocks that have come since w, too. -/
abbrev Plus (S : Nat → Prop) (w w' : World) (b : Nat) : Prop := S b ∨ (w.heap.size ≤ b ∧ b < w'.heap.size)
/-- A road: all its blocks are of S. -/
def RoadF (B gr : Nat) (now put : Int) (F : List MD) (S : Nat → Prop) (w : World) : Prop :=
  ∃ v L, RoadAt B gr now put v L w ∧ Same L F ∧ (∀ b, RBlk gr v L b → S b)
theorem RoadF.keeps {B gr : Nat} {now put : Int} {F : List MD} {S T : Nat → Prop} {w w' : World} (h : RoadF B gr now put F S w) (k : Keeps T w w') (hT : ∀ b, S b → ¬ T b) : RoadF B gr now put F S w' := by
  obtain ⟨v, L, h1, h2, h3⟩ := h
  exact ⟨v, L, h1.keeps k (hT _ (h3 _ (.inl rfl))) (fun g hg => hT _ (h3 _ (.inr (.inl hg)))) (fun q hq g hg => hT _ (h3 _ (.inr (.inr ⟨q, hq, hg⟩)))), h2, h3⟩
theorem RoadF.under {B gr : Nat} {now put : Int} {F : List MD} {S : Nat → Prop} {w w' : World} (h : RoadF B gr now put F S w) (hb : Below w.heap.size w w') : RoadF B gr now put F S w' := h.keeps (Keeps.under hb (fun _ => False)) (fun _ _ h => h)
theorem RoadF.mono {B gr : Nat} {now put : Int} {F : List MD} {S T : Nat → Prop} {w : World} (h : RoadF B gr now put F S w) (hT : ∀ b, S b → T b) : RoadF B gr now put F T w := by
  obtain ⟨v, L, h1, h2, h3⟩ := h
  exact ⟨v, L, h1, h2, fun b hb => hT b (h3 b hb)⟩
theorem RoadF.gr {B gr : Nat} {now put : Int} {F : List MD} {S : Nat → Prop} {w : World} (h : RoadF B gr now put F S w) : S gr := by obtain ⟨v, L, _, _, h3⟩ := h; exact h3 _ (.inl rfl)
/-- What a call that adds one leaves. -/
def FAdded (B gr : Nat) (now put : Int) (F : List MD) (S : Nat → Prop) (d : MD) (w w' : World) : Prop := RoadF B gr now (put + 1) (insB d F) (Plus S w w') w' ∧ Keeps S w w'
theorem fadded {B gr : Nat} {now put : Int} {v : Value} {L : List ME} {F : List MD} {S : Nat → Prop} {d : MD} {w w' : World} (hs : Same L F) (h3 : ∀ b, RBlk gr v L b → S b) (h : RAdded B gr now put v L d w w') : FAdded B gr now put F S d w w' := by
  obtain ⟨v', L', A, c, hp, hr, hk, hv, hq⟩ := h
  refine ⟨⟨v', L', hr, ?_, fun b hb => ?_⟩, hk.mono (fun g hg => ?_)⟩
  · refine (hp.map Prod.fst).trans ?_
    rw [List.map_append]
    exact (List.perm_append_comm.trans (hs.cons d)).trans (insB_perm d F).symm
  · have hlt := hr.rblk_lt b hb
    rcases hb with e | e | ⟨p, hp', e⟩
    · exact .inl (h3 b (.inl e))
    · rcases hv with hv | ⟨b', hv, hge⟩
      · exact .inl (h3 b (.inr (.inl (by rw [← hv]; exact e))))
      · rw [hv] at e
        injection e with e
        exact .inr ⟨by omega, hlt⟩
    · rcases List.mem_append.1 (hp.mem_iff.1 hp') with hm | hm
      · exact .inl (h3 b (.inr (.inr ⟨p, hm, e⟩)))
      · rw [List.mem_singleton.1 hm] at e
        exact .inr ⟨hq b e, hlt⟩
  · rcases hg with e | e
    · exact h3 g (.inl e)
    · exact h3 g (.inr (.inl e))
theorem Fsend_ok (B gr : Nat) (now put : Int) (F : List MD) (S : Nat → Prop) (addr : Int) (down : Bool) (A : Option Addr) (n c : Nat) (bs : List Int) (d : Int) (w : World) (h : RoadF B gr now put F S w) (hI : FInv now put F) (hL : F.length < 4096) (hs : sendB addr d n = true) (hB : B ≤ w.heap.size) (hr : ReadI w .u8 A bs) (hn : n = bs.length) :
    Calls Try.prog 12 #[.pointer (some ⟨gr, 0, none⟩), gramV addr down A n c, .int .i64 d] w fun e w' => e = .returned (.int .i64 0) ∧ FAdded B gr now put F S ⟨now + d, put, addr, down, bs⟩ w w' := by
  obtain ⟨v, L, h1, h2, h3⟩ := h
  have hp := hI.pos
  exact (send_ok B gr now put v L addr down A n c bs d w h1 (by rw [h2.len]; exact hL) hs hB hr hn (by omega) (by omega) (by omega) (by omega)).mono (fun e w' hh => ⟨hh.1, fadded h2 h3 hh.2⟩)
theorem Fsend_full (B gr : Nat) (now put : Int) (F : List MD) (S : Nat → Prop) (addr : Int) (down : Bool) (A : Option Addr) (n c : Nat) (d : Int) (w : World) (h : RoadF B gr now put F S w) (hI : FInv now put F) (hL : 4096 ≤ F.length) (hs : sendB addr d n = true) :
    Calls Try.prog 12 #[.pointer (some ⟨gr, 0, none⟩), gramV addr down A n c, .int .i64 d] w fun e w' => e = .returned (.int .i64 11) ∧ Below w.heap.size w w' := by
  obtain ⟨v, L, h1, h2, h3⟩ := h
  have hl := hI.len
  exact send_full B gr now put v L addr down A n c d w h1 (by rw [h2.len]; omega) (by rw [h2.len]; exact hL) hs
theorem Fdouble_ok (B gr : Nat) (now put : Int) (F : List MD) (S : Nat → Prop) (i : Nat) (q : MD) (w : World) (h : RoadF B gr now put F S w) (hI : FInv now put F) (hq : F[i]? = some q) (hf : F.length < 4096) (hB : B ≤ w.heap.size) :
    Calls Try.prog 15 #[.pointer (some ⟨gr, 0, none⟩), .int .i64 i] w fun e w' => e = .returned (.int .i64 0) ∧ FAdded B gr now put F S ⟨q.due, put, q.addr, q.down, q.bs⟩ w w' := by
  obtain ⟨v, L, h1, h2, h3⟩ := h
  refine (double_ok B gr now put v L i w h1 (hI.to h2) (by rw [h2.len]; exact getElem?_lt hq) (by rw [h2.len]; exact hf) hB).mono (fun e w' hh => ⟨hh.1, ?_⟩)
  obtain ⟨p, hp, ha⟩ := hh.2
  have := ith_F hI h2 hp
  rw [hq] at this
  rw [Option.some.inj this]
  exact fadded h2 h3 ha
theorem Fdouble_full (B gr : Nat) (now put : Int) (F : List MD) (S : Nat → Prop) (i : Nat) (w : World) (h : RoadF B gr now put F S w) (hI : FInv now put F) (hi : i < F.length) (hf : 4096 ≤ F.length) :
    Calls Try.prog 15 #[.pointer (some ⟨gr, 0, none⟩), .int .i64 i] w fun e w' => e = .returned (.int .i64 11) ∧ Below w.heap.size w w' := by
  obtain ⟨v, L, h1, h2, h3⟩ := h
  exact double_full B gr now put v L i w h1 (hI.to h2) (by rw [h2.len]; exact hi) (by rw [h2.len]; exact hf)
theorem Fdouble_bad (B gr : Nat) (now put : Int) (F : List MD) (S : Nat → Prop) (i : Int) (w : World) (h : RoadF B gr now put F S w) (hI : FInv now put F) (hi : i < 0 ∨ (F.length : Int) ≤ i) :
    Calls Try.prog 15 #[.pointer (some ⟨gr, 0, none⟩), .int .i64 i] w fun e w' => e = .returned (.int .i64 12) ∧ Below w.heap.size w w' := by
  obtain ⟨v, L, h1, h2, h3⟩ := h
  have hl := hI.len
  exact double_bad B gr now put v L i w h1 (by rw [h2.len]; omega) (by rw [h2.len]; exact hi)
theorem Fcount (B gr : Nat) (now put : Int) (F : List MD) (S : Nat → Prop) (w : World) (h : RoadF B gr now put F S w) (hI : FInv now put F) :
    Calls Try.prog 14 #[.pointer (some ⟨gr, 0, none⟩)] w fun e w' => e = .returned (.int .i64 F.length) ∧ w = w' := by
  obtain ⟨v, L, h1, h2, h3⟩ := h
  have hl := hI.len
  have := count_any B gr now put v L w h1 (by rw [h2.len]; omega)
  rw [h2.len] at this
  exact this
def FDropped (B gr : Nat) (now put : Int) (F : List MD) (S : Nat → Prop) (i : Nat) (w w' : World) : Prop := RoadF B gr now put (F.eraseIdx i) (Plus S w w') w' ∧ Keeps S w w'
theorem erase_perm {α : Type} : ∀ (F : List α) (i : Nat) (q : α), F[i]? = some q → F.Perm (q :: F.eraseIdx i)
  | [], i, q, h => by simp at h
  | a :: F, 0, q, h => by simp at h; subst h; exact List.Perm.refl _
  | a :: F, i + 1, q, h => ((erase_perm F i q (by simpa using h)).cons a).trans (List.Perm.swap _ _ _)
theorem Fdrop_ok (B gr : Nat) (now put : Int) (F : List MD) (S : Nat → Prop) (i : Nat) (w : World) (h : RoadF B gr now put F S w) (hI : FInv now put F) (hi : i < F.length) :
    Calls Try.prog 17 #[.pointer (some ⟨gr, 0, none⟩), .int .i64 i] w fun e w' => e = .returned (.bool true) ∧ FDropped B gr now put F S i w w' := by
  obtain ⟨v, L, h1, h2, h3⟩ := h
  refine (drop_ok B gr now put v L i w h1 (hI.to h2) (by rw [h2.len]; exact hi)).mono (fun e w' hh => ⟨hh.1, ?_⟩)
  obtain ⟨q, v', L', hq, hp, hr, hk, hv⟩ := hh.2
  refine ⟨⟨v', L', hr, ?_, fun b hb => .inl ?_⟩, hk.mono (fun g hg => ?_)⟩
  · have e := ith_F hI h2 hq
    have h5 : (q.1 :: L'.map Prod.fst).Perm (q.1 :: F.eraseIdx i) := ((hp.map Prod.fst).symm.trans h2).trans (erase_perm F i q.1 e)
    exact List.Perm.cons_inv h5
  · rcases hb with e | e | ⟨p, hp', e⟩
    · exact h3 b (.inl e)
    · exact h3 b (.inr (.inl (by rw [← hv]; exact e)))
    · exact h3 b (.inr (.inr ⟨p, hp.mem_iff.2 (List.mem_cons_of_mem _ hp'), e⟩))
  · rcases hg with e | e
    · exact h3 g (.inl e)
    · exact h3 g (.inr (.inl e))
theorem Fdrop_bad (B gr : Nat) (now put : Int) (F : List MD) (S : Nat → Prop) (i : Int) (w : World) (h : RoadF B gr now put F S w) (hI : FInv now put F) (hi : i < 0 ∨ (F.length : Int) ≤ i) :
    Calls Try.prog 17 #[.pointer (some ⟨gr, 0, none⟩), .int .i64 i] w fun e w' => e = .returned (.bool false) ∧ Below w.heap.size w w' := by
  obtain ⟨v, L, h1, h2, h3⟩ := h
  have hl := hI.len
  exact drop_bad B gr now put v L i w h1 (by rw [h2.len]; omega) (by rw [h2.len]; exact hi)
end Go.Proofs.Ytkodmoeohffjhaa
