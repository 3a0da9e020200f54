/- Tick, Late, At in the words of the list in order. -/
import Derived.Test.YtkodmoeohffjhaaRoF
namespace Go.Proofs.Ytkodmoeohffjhaa
open Go.RowKit Go.Proofs.Ytkodmoeohffjhaa.Hp
set_option linter.unusedVariables false
set_option linter.unusedSimpArgs false

abbrev dueP (z : Int) (q : MD) : Bool := decide (q.due ≤ z)
abbrev sinceP (z : Int) (q : MD) : Bool := !dueP z q
theorem due_none {z : Int} {x : MD} {F : List MD} (h : ∀ y ∈ F, aheadB x y = true) (hx : dueP z x = false) : ∀ y ∈ F, dueP z y = false := fun y hy => by
  have := h y hy
  rw [ahead_iff] at this
  simp [dueP] at hx ⊢
  omega
theorem take_due (z : Int) : ∀ F : List MD, F.Pairwise (fun a b => aheadB a b = true) → F.takeWhile (dueP z) = F.filter (dueP z)
  | [], _ => rfl
  | x :: F, h => by
    rw [List.pairwise_cons] at h
    cases hx : dueP z x
    · rw [List.takeWhile_cons, hx, List.filter_cons, hx]
      simp only [Bool.false_eq_true, if_false]
      exact (List.filter_eq_nil_iff.2 (fun y hy => by rw [due_none h.1 hx y hy]; decide)).symm
    · rw [List.takeWhile_cons, hx, List.filter_cons, hx]
      simp only [if_true]
      rw [take_due z F h.2]
theorem drop_due (z : Int) : ∀ F : List MD, F.Pairwise (fun a b => aheadB a b = true) → F.dropWhile (dueP z) = F.filter (sinceP z)
  | [], _ => rfl
  | x :: F, h => by
    rw [List.pairwise_cons] at h
    cases hx : dueP z x
    · rw [List.dropWhile_cons, hx, List.filter_cons]
      have hs : sinceP z x = true := by simp only [sinceP, hx]; rfl
      rw [hs]
      simp only [Bool.false_eq_true, if_false, if_true]
      rw [List.filter_eq_self.2 (fun y hy => by simp only [sinceP, due_none h.1 hx y hy]; rfl)]
    · rw [List.dropWhile_cons, hx, List.filter_cons]
      have hs : sinceP z x = false := by simp only [sinceP, hx]; rfl
      rw [hs]
      simp only [if_true, Bool.false_eq_true, if_false]
      exact drop_due z F h.2
theorem FInv.sub {now put : Int} {F G : List MD} (h : FInv now put F) (hs : G.Sublist F) : FInv now put G :=
  ⟨h.sort.sublist hs, List.Pairwise.sublist hs h.nums, fun q hq => h.num q (hs.subset hq), fun q hq => h.due q (hs.subset hq), Nat.le_trans hs.length_le h.len, fun q hq => h.small q (hs.subset hq), fun q hq => h.addr q (hs.subset hq), h.pos⟩
theorem FInv.tick {now put : Int} {F : List MD} (h : FInv now put F) (hn : now < 999999) : FInv (now + 1) put (F.filter (sinceP (now + 1))) := by
  have h2 := h.sub (List.filter_sublist (p := sinceP (now + 1)) (l := F))
  have hp := h.pos
  refine ⟨h2.sort, h2.nums, h2.num, fun q hq => ?_, h2.len, h2.small, h2.addr, by omega⟩
  have := h2.due q hq
  have hs := (List.mem_filter.1 hq).2
  simp [sinceP, dueP] at hs
  omega
/-- What Tick leaves. -/
structure FTick (B gr : Nat) (now put : Int) (F : List MD) (S : Nat → Prop) (w : World) (O L' : List ME) (v' : Value) (A : Option Addr) (c : Nat) (w' : World) : Prop where
  came : O.map Prod.fst = F.filter (dueP now)
  road : RoadAt B gr now put v' L' w'
  same : Same L' (F.filter (sinceP now))
  blks : ∀ b, RBlk gr v' L' b → S b
  old : ∀ b, RBlk gr v' L' b → b < w.heap.size
  gone : Gone B gr v' L' O w'
  gblk : ∀ q ∈ O, ∀ b, q.blk = some b → S b
  row : OwnR w' w.heap.size 32 3 (.slice A O.length c) O.length (O.flatMap gcell)
  keeps : Keeps S w w'
def FTicked (B gr : Nat) (now put : Int) (F : List MD) (S : Nat → Prop) (w : World) (en : Ending) (w' : World) : Prop :=
  ∃ O L' v' A c, en = .returned (.slice A O.length c) ∧ FTick B gr now put F S w O L' v' A c w'
theorem Ftick (B gr : Nat) (now put : Int) (F : List MD) (S : Nat → Prop) (w : World) (h : RoadF B gr now put F S w) (hI : FInv now put F) :
    Calls Try.prog 10 #[.pointer (some ⟨gr, 0, none⟩)] w (FTicked B gr (now + 1) put F S w) := by
  obtain ⟨v, L, h1, h2, h3⟩ := h
  have hl := hI.len
  have hp := hI.pos
  refine (tick_any B gr now put v L w h1 (by rw [h2.len]; omega) hp.1 (by omega)).mono (fun e w' hh => ?_)
  obtain ⟨O, L', v', A, c, rfl, hT, hd⟩ := hh
  have hpF : ((O ++ L').map Prod.fst).Perm F := (hT.perm.map Prod.fst).symm.trans h2
  have hn : Nums (O ++ L') := (hT.perm.pairwise_iff (fun h => Ne.symm h)).1 (hI.to h2).nums
  have hnO : Nums O := (List.pairwise_append.1 hn).1
  have fO : (O.map Prod.fst).filter (dueP (now + 1)) = O.map Prod.fst := List.filter_eq_self.2 (fun q hq => by
    obtain ⟨p, hp, e⟩ := List.mem_map.1 hq
    subst e
    exact decide_eq_true (hT.due p hp))
  have fL : (L'.map Prod.fst).filter (dueP (now + 1)) = [] := List.filter_eq_nil_iff.2 (fun q hq => by
    obtain ⟨p, hp, e⟩ := List.mem_map.1 hq
    subst e
    have := hd p hp
    simp [dueP]; omega)
  have gO : (O.map Prod.fst).filter (sinceP (now + 1)) = [] := List.filter_eq_nil_iff.2 (fun q hq => by
    obtain ⟨p, hp, e⟩ := List.mem_map.1 hq
    subst e
    have := hT.due p hp
    simp [sinceP, dueP]; omega)
  have gL : (L'.map Prod.fst).filter (sinceP (now + 1)) = L'.map Prod.fst := List.filter_eq_self.2 (fun q hq => by
    obtain ⟨p, hp, e⟩ := List.mem_map.1 hq
    subst e
    have := hd p hp
    simp [sinceP, dueP]; omega)
  have q1 := hpF.filter (dueP (now + 1))
  have q2 := hpF.filter (sinceP (now + 1))
  rw [List.map_append, List.filter_append, fO, fL, List.append_nil] at q1
  rw [List.map_append, List.filter_append, gO, gL, List.nil_append] at q2
  have hmem : ∀ p, p ∈ O ∨ p ∈ L' → p ∈ L := fun p hp => hT.perm.mem_iff.2 (List.mem_append.2 hp)
  have hsub : ∀ b, RBlk gr v' L' b → RBlk gr v L b := fun b hb => by
    rcases hb with e | e | ⟨p, hp, e⟩
    · exact .inl e
    · exact .inr (.inl (by rw [← hT.own']; exact e))
    · exact .inr (.inr ⟨p, hmem p (.inr hp), e⟩)
  refine ⟨O, L', v', A, c, rfl, F_unique q1 (strict_of hT.sort hnO) (hI.sort.sublist List.filter_sublist) (nums_map.1 hnO), hT.road, q2, fun b hb => h3 b (hsub b hb), fun b hb => h1.rblk_lt b (hsub b hb), hT.gone, fun q hq b hb => h3 b (.inr (.inr ⟨q, hmem q (.inl hq), hb⟩)), hT.row, hT.keeps.mono (fun g hg => ?_)⟩
  rcases hg with e | e
  · exact h3 g (.inl e)
  · exact h3 g (.inr (.inl e))
abbrev lateM (now d : Int) (q : MD) : MD := ⟨min (q.due + d) (now + 64), q.number, q.addr, q.down, q.bs⟩
theorem FInv.late {now put d : Int} {F : List MD} {i : Nat} {q : MD} (h : FInv now put F) (hq : F[i]? = some q) (hd : 1 ≤ d) : FInv now put (insB (lateM now d q) (F.eraseIdx i)) := by
  have hm := List.mem_of_getElem? hq
  have h2 := h.sub (List.eraseIdx_sublist F i)
  have hp := erase_perm F i q hq
  have hne : ∀ x ∈ F.eraseIdx i, (lateM now d q).number ≠ x.number := (List.pairwise_cons.1 ((numF_perm hp).1 h.nums)).1
  have hl := hp.length_eq
  have := h.len
  have hdq := h.due q hm
  simp at hl
  refine ⟨insB_sort h2.sort hne, (numF_perm (insB_perm _ _)).2 (List.pairwise_cons.2 ⟨hne, h2.nums⟩), fun p hp => ?_, fun p hp => ?_, by rw [insB_len]; omega, fun p hp => ?_, fun p hp => ?_, h.pos⟩
  · rcases insB_mem.1 hp with e | e
    · rw [e]; exact h.num q hm
    · exact h2.num p e
  · rcases insB_mem.1 hp with e | e
    · rw [e]; simp only; omega
    · exact h2.due p e
  · rcases insB_mem.1 hp with e | e
    · rw [e]; exact h.small q hm
    · exact h2.small p e
  · rcases insB_mem.1 hp with e | e
    · rw [e]; exact h.addr q hm
    · exact h2.addr p e
def FLated (B gr : Nat) (now put d : Int) (F : List MD) (S : Nat → Prop) (i : Nat) (q : MD) (w w' : World) : Prop := RoadF B gr now put (insB (lateM now d q) (F.eraseIdx i)) S w' ∧ Keeps S w w'
theorem Flate_ok (B gr : Nat) (now put d : Int) (F : List MD) (S : Nat → Prop) (i : Nat) (q : MD) (w : World) (h : RoadF B gr now put F S w) (hI : FInv now put F) (hq : F[i]? = some q) (hb : lateB d = true) :
    Calls Try.prog 24 #[.pointer (some ⟨gr, 0, none⟩), .int .i64 i, .int .i64 d] w fun e w' => e = .returned (.int .i64 0) ∧ FLated B gr now put d F S i q w w' := by
  obtain ⟨v, L, h1, h2, h3⟩ := h
  refine (late_ok B gr now put d v L i w h1 (hI.to h2) (by rw [h2.len]; exact getElem?_lt hq) hb).mono (fun e w' hh => ⟨hh.1, ?_⟩)
  obtain ⟨p, R, L', hp, hp1, hp2, hr, hk⟩ := hh.2
  have e := ith_F hI h2 hp
  rw [hq] at e
  have e := Option.some.inj e
  have hR : (R.map Prod.fst).Perm (F.eraseIdx i) := by
    have h5 : (p.1 :: R.map Prod.fst).Perm (p.1 :: F.eraseIdx i) := ((hp1.map Prod.fst).symm.trans h2).trans (erase_perm F i p.1 (by rw [← e]; exact hq))
    exact List.Perm.cons_inv h5
  refine ⟨⟨v, L', hr, ?_, fun b hb => ?_⟩, hk.mono (fun g hg => ?_)⟩
  · refine (hp2.map Prod.fst).trans ?_
    rw [e]
    exact (hR.cons _).trans (insB_perm _ _).symm
  · rcases hb with e | e | ⟨x, hx, e⟩
    · exact h3 b (.inl e)
    · exact h3 b (.inr (.inl e))
    · rcases List.mem_cons.1 (hp2.mem_iff.1 hx) with hm | hm
      · rw [hm] at e
        exact h3 b (.inr (.inr ⟨p, hp.mem, e⟩))
      · exact h3 b (.inr (.inr ⟨x, hp1.mem_iff.2 (List.mem_cons_of_mem _ hm), e⟩))
  · rcases hg with e | e
    · exact h3 g (.inl e)
    · exact h3 g (.inr (.inl e))
theorem Flate_out (B gr : Nat) (now put d : Int) (F : List MD) (S : Nat → Prop) (i : Int) (w : World) (h : RoadF B gr now put F S w) (hI : FInv now put F) (hi : i < 0 ∨ (F.length : Int) ≤ i) (hb : lateB d = true) :
    Calls Try.prog 24 #[.pointer (some ⟨gr, 0, none⟩), .int .i64 i, .int .i64 d] w fun e w' => e = .returned (.int .i64 12) ∧ Below w.heap.size w w' := by
  obtain ⟨v, L, h1, h2, h3⟩ := h
  have hl := hI.len
  exact late_out B gr now put v L i d w h1 (by rw [h2.len]; omega) (by rw [h2.len]; exact hi) hb
def FAtOk (q : MD) (w : World) (e : Ending) (w' : World) : Prop := ∃ A c, e = .returned (.tuple #[gramV q.addr q.down A q.bs.length c, .bool true]) ∧ OwnB w' w.heap.size A c q.bs ∧ Below w.heap.size w w'
theorem Fat_ok (B gr : Nat) (now put : Int) (F : List MD) (S : Nat → Prop) (i : Nat) (q : MD) (w : World) (h : RoadF B gr now put F S w) (hI : FInv now put F) (hq : F[i]? = some q) :
    Calls Try.prog 26 #[.pointer (some ⟨gr, 0, none⟩), .int .i64 i] w (FAtOk q w) := by
  obtain ⟨v, L, h1, h2, h3⟩ := h
  refine (at_ok B gr now put v L i w h1 (hI.to h2) (by rw [h2.len]; exact getElem?_lt hq)).mono (fun e w' hh => ?_)
  obtain ⟨p, A, c, hp, rfl, ho, hb⟩ := hh
  have e := ith_F hI h2 hp
  rw [hq] at e
  rw [Option.some.inj e]
  exact ⟨A, c, rfl, ho, hb⟩
theorem Fat_bad (B gr : Nat) (now put : Int) (F : List MD) (S : Nat → Prop) (i : Int) (w : World) (h : RoadF B gr now put F S w) (hI : FInv now put F) (hi : i < 0 ∨ (F.length : Int) ≤ i) :
    Calls Try.prog 26 #[.pointer (some ⟨gr, 0, none⟩), .int .i64 i] w fun e w' => e = .returned (.tuple #[gramV 0 false none 0 0, .bool false]) ∧ Below w.heap.size w w' := by
  obtain ⟨v, L, h1, h2, h3⟩ := h
  have hl := hI.len
  exact at_bad B gr now put v L i w h1 (by rw [h2.len]; omega) (by rw [h2.len]; exact hi)
theorem Fnew (w : World) : Calls Try.prog 7 #[] w fun e w' => e = .returned (.pointer (some ⟨w.heap.size, 0, none⟩)) ∧ RoadF w.heap.size w.heap.size 0 0 [] (Plus (fun _ => False) w w') w' ∧ FInv 0 0 [] ∧ Below w.heap.size w w' :=
  (new_any w).mono (fun e w' hh => by
    obtain ⟨h1, h2⟩ := hh.2 w.heap.size (Nat.le_refl _)
    refine ⟨hh.1, ⟨_, _, h1, List.Perm.refl _, fun b hb => .inr ?_⟩, ⟨List.Pairwise.nil, List.Pairwise.nil, by simp, by simp, by simp, by simp, by simp, by omega⟩, h2⟩
    have hlt := h1.rblk_lt b hb
    rcases hb with e | e | ⟨p, hp, e⟩
    · omega
    · cases e
    · cases hp)
end Go.Proofs.Ytkodmoeohffjhaa
