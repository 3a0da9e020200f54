/- The road in memory. -/
import Derived.Test.YtkodmoeohffjhaaRoAdd
namespace Go.Proofs.Ytkodmoeohffjhaa
open Go.RowKit Go.Proofs.Ytkodmoeohffjhaa.Hp
set_option linter.unusedVariables false
set_option linter.unusedSimpArgs false

/-- The block of a mail's bytes. -/
abbrev ME.blk (q : ME) : Option Nat := (ME.v q).ownBlock
abbrev Apart (a b : ME) : Prop := ∀ g, a.blk = some g → b.blk ≠ some g
theorem Apart.symm {a b : ME} (h : Apart a b) : Apart b a := fun g h1 h2 => h g h2 h1
structure RoadAt (B gr : Nat) (now put : Int) (v : Value) (L : List ME) (w : World) : Prop where
  fly : Fly w B gr (.int .i64 now) (.int .i64 put) v L
  own : ∀ q ∈ L, OwnB w B q.2.1 q.2.2 q.1.bs
  apart : L.Pairwise Apart
  off : ∀ q ∈ L, q.blk ≠ some gr ∧ ∀ g, v.ownBlock = some g → q.blk ≠ some g
  heap : Heap mlt L L.length
  base : B ≤ gr
section
variable {B gr : Nat} {now put : Int} {v v' : Value} {L L' : List ME} {w w' : World}
theorem RoadAt.lt (h : RoadAt B gr now put v L w) : gr < w.heap.size := h.fly.blk.lt
theorem RoadAt.under (h : RoadAt B gr now put v L w) (hb : Below w.heap.size w w') : RoadAt B gr now put v L w' :=
  ⟨h.fly.under hb, fun q hq => (h.own q hq).under hb, h.apart, h.off, h.heap, h.base⟩
theorem Fly.keeps {S : Nat → Prop} {base : Nat} {x y : Value} (h : Fly w base gr x y v L) (k : Keeps S w w') (h1 : ¬ S gr) (h2 : ∀ g, v.ownBlock = some g → ¬ S g) : Fly w' base gr x y v L := ⟨k.blk h.blk h1, k.row h.own h2, h.off⟩
theorem RoadAt.keeps {S : Nat → Prop} (h : RoadAt B gr now put v L w) (k : Keeps S w w') (h1 : ¬ S gr) (h2 : ∀ g, v.ownBlock = some g → ¬ S g) (h3 : ∀ q ∈ L, ∀ g, q.blk = some g → ¬ S g) : RoadAt B gr now put v L w' :=
  ⟨h.fly.keeps k h1 h2, fun q hq => k.own (h.own q hq) (h3 q hq), h.apart, h.off, h.heap, h.base⟩
theorem RoadAt.set0 (h : RoadAt B gr now put v L w) (z : Int) : RoadAt B gr z put v L (w.setCell ⟨gr, 0, none⟩ (.int .i64 z)) := by
  have k : Keeps (fun b => b = gr) w (w.setCell ⟨gr, 0, none⟩ (.int .i64 z)) := Keeps.setCell (S := fun b => b = gr) (p := ⟨gr, 0, none⟩) (Keeps.refl _ w) (.inl rfl) _
  exact ⟨⟨h.fly.blk.s3_0 _, k.row h.fly.own (fun g hg e => h.fly.off (by rw [hg, e])), h.fly.off⟩, fun q hq => k.own (h.own q hq) (fun g hg e => (h.off q hq).1 (by rw [← e]; exact hg)), h.apart, h.off, h.heap, h.base⟩
theorem RoadAt.set1 (h : RoadAt B gr now put v L w) (z : Int) : RoadAt B gr now z v L (w.setCell ⟨gr, 1, none⟩ (.int .i64 z)) := by
  have k : Keeps (fun b => b = gr) w (w.setCell ⟨gr, 1, none⟩ (.int .i64 z)) := Keeps.setCell (S := fun b => b = gr) (p := ⟨gr, 1, none⟩) (Keeps.refl _ w) (.inl rfl) _
  exact ⟨⟨h.fly.blk.s3_1 _, k.row h.fly.own (fun g hg e => h.fly.off (by rw [hg, e])), h.fly.off⟩, fun q hq => k.own (h.own q hq) (fun g hg e => (h.off q hq).1 (by rw [← e]; exact hg)), h.apart, h.off, h.heap, h.base⟩
/-- Blocks of the road. -/
def RBlk (gr : Nat) (v : Value) (L : List ME) (b : Nat) : Prop := b = gr ∨ v.ownBlock = some b ∨ ∃ q ∈ L, q.blk = some b
/-- One mail more, whose bytes lie in no block of the road's. -/
theorem RoadAt.pushed {q : ME} (h : RoadAt B gr now put v L w) (hq : OwnB w B q.2.1 q.2.2 q.1.bs) (hf : ∀ g, q.blk = some g → ¬ RBlk gr v L g) (hp : L'.Perm (L ++ [q])) (hH : Heap mlt L' L'.length)
    (hF : Fly w' B gr (.int .i64 now) (.int .i64 put) v' L') (hK : Keeps (Two gr v) w w') (hv : v'.ownBlock = v.ownBlock ∨ ∃ b, v'.ownBlock = some b ∧ w.heap.size ≤ b) : RoadAt B gr now put v' L' w' := by
  have hnq : ∀ p ∈ L ++ [q], p.blk ≠ some gr ∧ ∀ g, v.ownBlock = some g → p.blk ≠ some g := by
    intro p hp
    rcases List.mem_append.1 hp with hp | hp
    · exact h.off p hp
    · rw [List.mem_singleton.1 hp]
      exact ⟨fun e => hf gr e (.inl rfl), fun g hg e => hf g e (.inr (.inl hg))⟩
  have hown : ∀ p ∈ L ++ [q], OwnB w B p.2.1 p.2.2 p.1.bs := by
    intro p hp
    rcases List.mem_append.1 hp with hp | hp
    · exact h.own p hp
    · rw [List.mem_singleton.1 hp]; exact hq
  refine ⟨hF, fun p hp' => hK.own (hown p (hp.mem_iff.1 hp')) (fun g hg e => ?_), ?_, fun p hp' => ⟨(hnq p (hp.mem_iff.1 hp')).1, fun g hg e => ?_⟩, hH, h.base⟩
  · have hn := hnq p (hp.mem_iff.1 hp')
    rcases e with e | e
    · exact hn.1 (by rw [← e]; exact hg)
    · exact hn.2 g e hg
  · rw [hp.pairwise_iff (fun h => Apart.symm h)]
    rw [List.pairwise_append]
    exact ⟨h.apart, List.pairwise_singleton _ _, fun a ha b hb g h1 h2 => by
      rw [List.mem_singleton.1 hb] at h2
      exact hf g h2 (.inr (.inr ⟨a, ha, h1⟩))⟩
  · have hn := hnq p (hp.mem_iff.1 hp')
    have hlt := (OwnI.lt (hown p (hp.mem_iff.1 hp')) g e).2
    rcases hv with hv | ⟨b, hb, hge⟩
    · exact hn.2 g (by rw [← hv]; exact hg) e
    · rw [hb] at hg
      injection hg with hg
      omega
/-- One mail less: it is the call's own now. -/
theorem RoadAt.popped {q : ME} {n : Nat} (h : RoadAt B gr now put v L w) (hp : L.Perm (q :: L')) (hl : L'.length = n) (hH : Heap mlt L' n) (hF : Fly w' B gr (.int .i64 now) (.int .i64 put) v' L') (hK : Keeps (Two gr v) w w') (hv : v'.ownBlock = v.ownBlock) :
    RoadAt B gr now put v' L' w' ∧ OwnB w' B q.2.1 q.2.2 q.1.bs ∧ (∀ g, q.blk = some g → ¬ RBlk gr v' L' g) := by
  have sub : ∀ p ∈ L', p ∈ L := fun p h => hp.mem_iff.2 (List.mem_cons_of_mem _ h)
  have hq : q ∈ L := hp.mem_iff.2 (List.mem_cons_self ..)
  have hk : ∀ p ∈ L, OwnB w' B p.2.1 p.2.2 p.1.bs := fun p hp => hK.own (h.own p hp) (fun g hg e => by
    rcases e with e | e
    · exact (h.off p hp).1 (by rw [← e]; exact hg)
    · exact (h.off p hp).2 g e hg)
  have hA := (hp.pairwise_iff (fun h => Apart.symm h)).1 h.apart
  refine ⟨⟨hF, fun p hp => hk p (sub p hp), (List.pairwise_cons.1 hA).2, fun p hp => ⟨(h.off p (sub p hp)).1, fun g hg => (h.off p (sub p hp)).2 g (by rw [← hv]; exact hg)⟩, by rw [hl]; exact hH, h.base⟩, hk q hq, fun g hg e => ?_⟩
  rcases e with e | e | ⟨p, hp, e⟩
  · exact (h.off q hq).1 (by rw [← e]; exact hg)
  · exact (h.off q hq).2 g (by rw [← hv]; exact e) hg
  · exact (List.pairwise_cons.1 hA).1 p hp g hg e
end
/-- What Road.add leaves. -/
def RAdded (B gr : Nat) (now put : Int) (v : Value) (L : List ME) (d : MD) (w w' : World) : Prop :=
  ∃ v' L' A c, L'.Perm (L ++ [(d, A, c)]) ∧ RoadAt B gr now (put + 1) v' L' w' ∧ Keeps (Two gr v) w w' ∧ (v'.ownBlock = v.ownBlock ∨ ∃ b, v'.ownBlock = some b ∧ w.heap.size ≤ b) ∧ (∀ g, ME.blk (d, A, c) = some g → w.heap.size ≤ g)
theorem RoadAt.rblk_lt {B gr : Nat} {now put : Int} {v : Value} {L : List ME} {w : World} (h : RoadAt B gr now put v L w) : ∀ g, RBlk gr v L g → g < w.heap.size := by
  intro g hg
  rcases hg with e | e | ⟨p, hp, e⟩
  · rw [e]; exact h.lt
  · exact (OwnR.blocks h.fly.own g e).2
  · exact (OwnI.lt (h.own p hp) g e).2
theorem radded {B gr : Nat} {now put : Int} {v v' : Value} {L L' : List ME} {d : MD} {w w1 w2 : World} {A : Option Addr} {c : Nat} (h : RoadAt B gr now put v L w) (hb : Below w.heap.size w w1) (ho : OwnB w1 w.heap.size A c d.bs)
    (hp : L'.Perm (L ++ [(d, A, c)])) (hH : Heap mlt L' L'.length) (hF : Fly w2 B gr (.int .i64 now) (.int .i64 put) v' L') (hK : Keeps (Two gr v) w1 w2) (hv : v'.ownBlock = v.ownBlock ∨ ∃ b, v'.ownBlock = some b ∧ w1.heap.size ≤ b) :
    RAdded B gr now put v L d w (w2.setCell ⟨gr, 1, none⟩ (.int .i64 (put + 1))) := by
  have hlt := h.rblk_lt
  have hB := h.lt
  have hbs := h.base
  have h2 := (h.under hb).pushed (q := (d, A, c)) (OwnI.mono ho (by omega)) (fun g hg hr => by have := hlt g hr; have := (OwnI.lt ho g hg).1; omega) hp hH hF hK hv
  refine ⟨v', L', A, c, hp, h2.set1 _, ?_, ?_, fun g hg => (OwnI.lt ho g hg).1⟩
  · exact ((Keeps.under hb _).trans hK (fun _ h _ => h)).setCell (p := ⟨gr, 1, none⟩) (.inl (.inl rfl)) _
  · rcases hv with hv | ⟨b, hv, hge⟩
    · exact .inl hv
    · exact .inr ⟨b, hv, by have := hb.size; omega⟩
end Go.Proofs.Ytkodmoeohffjhaa
