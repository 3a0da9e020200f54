/- What Road.Tick keeps while it runs. -/
import Derived.Test.YtkodmoeohffjhaaRoSend
namespace Go.Proofs.Ytkodmoeohffjhaa
open Go.RowKit Go.Proofs.Ytkodmoeohffjhaa.Hp
set_option linter.unusedVariables false
set_option linter.unusedSimpArgs false

def gcell (q : ME) : List Value := [.int .i64 q.1.addr, .bool q.1.down, q.v]
theorem gcell_len (L : List ME) : (L.flatMap gcell).length = L.length * 3 := by
  induction L with
  | nil => rfl
  | cons q L ih => simp only [List.flatMap_cons, List.length_append, List.length_cons, ih, gcell, List.length_nil]; omega
/-- Bytes that have left the road: the call's own, each apart from the others and from the road. -/
structure Gone (B gr : Nat) (v : Value) (L O : List ME) (w : World) : Prop where
  own : ∀ q ∈ O, OwnB w B q.2.1 q.2.2 q.1.bs
  apart : O.Pairwise Apart
  off : ∀ q ∈ O, ∀ g, q.blk = some g → ¬ RBlk gr v L g
structure TickR (B gr : Nat) (now put : Int) (v : Value) (L : List ME) (w : World) (O L' : List ME) (v' out : Value) (wr : World) : Prop where
  road : RoadAt B gr now put v' L' wr
  perm : L.Perm (O ++ L')
  sort : O.Pairwise (fun a b => mlt b a = false)
  le : ∀ a ∈ O, ∀ b ∈ L', mlt b a = false
  due : ∀ q ∈ O, q.1.due ≤ now
  gone : Gone B gr v' L' O wr
  lo : ∀ q ∈ L, ∀ g, q.blk = some g → g < w.heap.size
  lov : ∀ g, v.ownBlock = some g → g < w.heap.size
  log : gr < w.heap.size
  row : OwnR wr w.heap.size 32 3 out O.length (O.flatMap gcell)
  keeps : Keeps (Two gr v) w wr
  own' : v'.ownBlock = v.ownBlock
theorem flat_snoc {α β : Type} (f : α → List β) (O : List α) (q : α) : (O ++ [q]).flatMap f = O.flatMap f ++ f q := by simp
theorem head_min {L : List ME} (h : Heap mlt L L.length) {q : ME} (hq : L[0]? = some q) : ∀ b ∈ L, mlt b q = false := fun b hb => by
  obtain ⟨k, hk, e⟩ := List.getElem_of_mem hb
  have := heap_min ordr_mlt h mlt_irr k hk
  unfold le at this
  simp only [at_, hq, List.getElem?_eq_getElem hk, e] at this
  exact this
/-- The next one has been taken off, and put behind what comes. -/
theorem TickR.next {B gr n : Nat} {now put : Int} {v v' out out' : Value} {L O L' : List ME} {w wr w2 w2' w3 : World} {q : ME} (h : TickR B gr now put v L w O L' v' out wr) (hl : L'.length = n + 1) (hq : L'[0]? = some q) (hd : q.1.due ≤ now)
    (hP : HPopped B gr (.int .i64 now) (.int .i64 put) v' n L' q wr w2) (hb : Below w2.heap.size w2 w2') (ha : AppedR w2' w3 w.heap.size 32 3 out out' (O.length + 1) (O.flatMap gcell ++ gcell q)) :
    ∃ v2 L2, L2.length = n ∧ TickR B gr now put v L w (O ++ [q]) L2 v2 out' w3 := by
  obtain ⟨v2, L2, hp, hH, hl2, hF, hK, hv⟩ := hP
  obtain ⟨hr2, ho2, hf2⟩ := h.road.popped hp hl2 hH hF hK hv
  have hmem : ∀ p ∈ L', p ∈ L := fun p hp => h.perm.mem_iff.2 (List.mem_append_right _ hp)
  have hmemO : ∀ p ∈ O, p ∈ L := fun p hp => h.perm.mem_iff.2 (List.mem_append_left _ hp)
  have hqL' : q ∈ L' := hp.mem_iff.2 (List.mem_cons_self ..)
  have hsub : ∀ p ∈ L2, p ∈ L' := fun p h => hp.mem_iff.2 (List.mem_cons_of_mem _ h)
  have hmin := head_min h.road.heap hq
  -- from w2 to w3 only the row of what comes turns
  have k23 : Keeps (fun b => out.ownBlock = some b) w2 w3 := (Keeps.under hb _).trans (Keeps.grown ha.only (S := fun b => out.ownBlock = some b) (fun g hg => hg)) (fun _ h _ => h)
  have hol : ∀ g, out.ownBlock = some g → w.heap.size ≤ g := fun g hg => (OwnR.blocks h.row g hg).1
  have hogr : ∀ g, out.ownBlock = some g → ∀ p ∈ L, p.blk ≠ some g := fun g hg p hp e => by have := h.lo p hp g e; have := hol g hg; omega
  have hov : ∀ g, out.ownBlock = some g → v.ownBlock ≠ some g := fun g hg e => by have := h.lov g e; have := hol g hg; omega
  have hout : ∀ g, out.ownBlock = some g → g ≠ gr := fun g hg e => by have := h.log; have := hol g hg; omega
  have sub : ∀ g, RBlk gr v2 L2 g → RBlk gr v' L' g := fun g hg => by
    rcases hg with e | e | ⟨p, hp, e⟩
    · exact .inl e
    · exact .inr (.inl (by rw [← hv]; exact e))
    · exact .inr (.inr ⟨p, hsub p hp, e⟩)
  refine ⟨v2, L2, hl2, hr2.keeps k23 (fun e => hout gr e rfl) (fun g hg e => hov g e (by rw [← h.own', ← hv]; exact hg)) (fun p hp g hg e => hogr g e p (hmem p (hsub p hp)) hg), ?_, ?_, ?_, ?_, ⟨?_, ?_, ?_⟩, h.lo, h.lov, h.log, ?_, ?_, hv.trans h.own'⟩
  · refine h.perm.trans ((hp.append_left O).trans ?_)
    rw [List.append_assoc]
    rfl
  · rw [List.pairwise_append]
    exact ⟨h.sort, List.pairwise_singleton _ _, fun a ha b hb => by rw [List.mem_singleton.1 hb]; exact h.le a ha q hqL'⟩
  · intro a ha b hb
    rcases List.mem_append.1 ha with ha | ha
    · exact h.le a ha b (hsub b hb)
    · rw [List.mem_singleton.1 ha]; exact hmin b (hsub b hb)
  · intro p hp
    rcases List.mem_append.1 hp with hp | hp
    · exact h.due p hp
    · rw [List.mem_singleton.1 hp]; exact hd
  · intro p hp
    rcases List.mem_append.1 hp with hp | hp
    · refine k23.own (hK.own (h.gone.own p hp) (fun g hg e => ?_)) (fun g hg e => hogr g e p (hmemO p hp) hg)
      refine h.gone.off p hp g hg ?_
      rcases e with e | e
      · exact .inl e
      · exact .inr (.inl e)
    · rw [List.mem_singleton.1 hp]
      exact k23.own ho2 (fun g hg e => hogr g e q (hmem q hqL') hg)
  · rw [List.pairwise_append]
    exact ⟨h.gone.apart, List.pairwise_singleton _ _, fun a ha b hb g h1 h2 => by
      rw [List.mem_singleton.1 hb] at h2
      exact h.gone.off a ha g h1 (.inr (.inr ⟨q, hqL', h2⟩))⟩
  · intro p hp g hg hr
    rcases List.mem_append.1 hp with hp | hp
    · exact h.gone.off p hp g hg (sub g hr)
    · rw [List.mem_singleton.1 hp] at hg
      exact hf2 g hg hr
  · have e1 : (O ++ [q]).length = O.length + 1 := by simp
    rw [e1, flat_snoc]
    exact ha.own
  · refine (h.keeps.trans hK (fun g hg _ => ?_)).trans k23 (fun g hg hlt => by have := hol g hg; omega)
    rcases hg with e | e
    · exact .inl e
    · exact .inr (by rw [← h.own']; exact e)
/-- What Road.Tick leaves. -/
def RTicked (B gr : Nat) (now put : Int) (v : Value) (L : List ME) (w : World) (en : Ending) (w' : World) : Prop :=
  ∃ O L' v' A c, en = .returned (.slice A O.length c) ∧ TickR B gr now put v L w O L' v' (.slice A O.length c) w' ∧ ∀ q ∈ L', now < q.1.due
theorem TickR.start {B gr : Nat} {now put now' : Int} {v : Value} {L : List ME} {w : World} (h : RoadAt B gr now put v L w) : TickR B gr now' put v L w [] L v (.slice none 0 0) (w.setCell ⟨gr, 0, none⟩ (.int .i64 now')) :=
  ⟨h.set0 now', List.Perm.refl _, List.Pairwise.nil, by simp, by simp, ⟨by simp, List.Pairwise.nil, by simp⟩, fun q hq g hg => h.rblk_lt g (.inr (.inr ⟨q, hq, hg⟩)), fun g hg => h.rblk_lt g (.inr (.inl hg)), h.lt, OwnR.nil _ _ _ _, Keeps.setCell (p := ⟨gr, 0, none⟩) (Keeps.refl _ w) (.inl (.inl rfl)) _, rfl⟩
end Go.Proofs.Ytkodmoeohffjhaa
