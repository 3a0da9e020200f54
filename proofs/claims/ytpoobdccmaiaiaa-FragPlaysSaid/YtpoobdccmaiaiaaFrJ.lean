/- What a joiner of parts computes, and how it lies in memory. No statement of the seat stands here. -/
import Derived.Test.YtpoobdccmaiaiaaFrRsplit2
import Derived.Test.YtpoobdccmaiaiaaKeeps
namespace Go.Proofs.Ytpoobdccmaiaiaa
open Go.RowKit
open Frag
set_option linter.unusedVariables false
set_option linter.unusedSimpArgs false

namespace Frag
structure JS where
  any : Bool
  done : Bool
  id : Int
  ct : Int
  es : List (Int × List Int)
structure Ans where
  out : List Int
  ok : Bool
  er : Int
def lkB (es : List (Int × List Int)) (k : Int) : List Int := ((es.find? (fun p => p.1 == k)).map (·.2)).getD []
def full (es : List (Int × List Int)) (n : Nat) : List Int := (List.range n).flatMap fun i : Nat => lkB es i
def JS.fresh (p : PV) : JS := ⟨true, false, p.id, p.ct, []⟩
def hasIx (es : List (Int × List Int)) (k : Int) : Bool := (es.find? (fun p => p.1 == k)).isSome
def JS.tail (s : JS) (p : PV) : Ans × JS :=
  if hasIx s.es p.ix || s.done then (⟨[], false, 16⟩, s)
  else if decide ((s.es.length : Int) + 1 < s.ct) then (⟨[], false, 0⟩, { s with es := s.es ++ [(p.ix, p.bs)] })
  else (⟨full (s.es ++ [(p.ix, p.bs)]) s.ct.toNat, true, 0⟩, { s with es := [], done := true })
def mayP (p : PV) : Bool := mayB p.ix p.ct p.bs.length
def JS.take (s : JS) (p : PV) : Ans × JS :=
  if mayP p = false then (⟨[], false, 1⟩, s)
  else if s.any && decide (p.id < s.id) then (⟨[], false, 16⟩, s)
  else if !s.any || decide (s.id < p.id) then (JS.fresh p).tail p
  else if p.ct != s.ct then (⟨[], false, 3⟩, s)
  else s.tail p
structure JOk (s : JS) : Prop where
  ct : s.ct ≤ 128
  len : s.es.length ≤ 128
  small : ∀ e ∈ s.es, e.2.length ≤ 448
theorem mayP_iff (p : PV) : mayP p = true ↔ 1 ≤ p.ct ∧ p.ct ≤ 128 ∧ 0 ≤ p.ix ∧ p.ix < p.ct ∧ p.bs.length ≤ 448 ∧ (p.bs.length = 448 ∨ p.ix = p.ct - 1) := by
  unfold mayP mayB
  simp
  omega
theorem lkB_len (es : List (Int × List Int)) (h : ∀ e ∈ es, e.2.length ≤ 448) (k : Int) : (lkB es k).length ≤ 448 := by
  unfold lkB
  cases hf : es.find? (fun p => p.1 == k) with
  | none => simp
  | some e => simpa using h e (List.mem_of_find?_eq_some hf)
theorem full_succ (es : List (Int × List Int)) (n : Nat) : full es (n + 1) = full es n ++ lkB es n := by
  unfold full
  rw [List.range_succ, List.flatMap_append]
  simp
theorem full_len (es : List (Int × List Int)) (h : ∀ e ∈ es, e.2.length ≤ 448) (n : Nat) : (full es n).length ≤ 448 * n := by
  induction n with
  | zero => simp [full]
  | succ n ih =>
    have := lkB_len es h n
    rw [full_succ, List.length_append]
    omega
theorem JOk.start : JOk ⟨false, false, 0, 0, []⟩ := ⟨by decide, by decide, fun _ h => by cases h⟩
theorem JOk.freshOk (p : PV) (h : mayP p = true) : JOk (JS.fresh p) := ⟨((mayP_iff p).1 h).2.1, by simp [JS.fresh], fun _ h => by cases h⟩
theorem JOk.tail (s : JS) (p : PV) (h : JOk s) (hp : mayP p = true) : JOk (s.tail p).2 := by
  have hb := (mayP_iff p).1 hp
  unfold JS.tail
  split
  · exact h
  · split
    · rename_i _ h2
      have h2 := of_decide_eq_true h2
      refine ⟨h.ct, ?_, fun e he => ?_⟩
      · have := h.ct
        simp
        omega
      · rcases List.mem_append.1 he with he | he
        · exact h.small e he
        · rw [List.mem_singleton.1 he]; exact hb.2.2.2.2.1
    · exact ⟨h.ct, by simp, fun _ h => by cases h⟩
theorem JOk.take (s : JS) (p : PV) (h : JOk s) : JOk (s.take p).2 := by
  unfold JS.take
  cases hm : mayP p
  · exact h
  · simp only [Bool.true_eq_false, if_false]
    split
    · exact h
    · split
      · exact (JOk.freshOk p hm).tail _ p hm
      · split
        · exact h
        · exact h.tail _ p hm
theorem tail_out_len (s : JS) (p : PV) (h : JOk s) (hp : mayP p = true) : (s.tail p).1.out.length ≤ 57344 := by
  have hb := (mayP_iff p).1 hp
  unfold JS.tail
  split
  · simp
  · split
    · simp
    · have h1 := full_len (s.es ++ [(p.ix, p.bs)]) (fun e he => by
        rcases List.mem_append.1 he with he | he
        · exact h.small e he
        · rw [List.mem_singleton.1 he]; exact hb.2.2.2.2.1) s.ct.toNat
      have := h.ct
      simp only
      omega
theorem take_out_len (s : JS) (p : PV) (h : JOk s) : (s.take p).1.out.length ≤ 57344 := by
  unfold JS.take
  cases hm : mayP p
  · simp
  · simp only [Bool.true_eq_false, if_false]
    split
    · simp
    · split
      · exact tail_out_len _ p (JOk.freshOk p hm) hm
      · split
        · simp
        · exact tail_out_len _ p h hm
end Frag

def slots (E : List (Int × Value × List Int)) : List (Int × Value) := E.map fun e => (e.1, e.2.1)
def bytesOf (E : List (Int × Value × List Int)) : List (Int × List Int) := E.map fun e => (e.1, e.2.2)
/-- A joiner in memory: its struct at gj, its map at mb, its parts' bytes from B on. -/
structure Jn (w : World) (B gj mb : Nat) (s : JS) (E : List (Int × Value × List Int)) : Prop where
  blk : Blk w gj 51 #[.bool s.any, .bool s.done, .int .u32 s.id, .int .i64 s.ct, .map (some mb)]
  map : MapS w mb .i64 (slots E)
  es : s.es = bytesOf E
  own : ∀ e ∈ E, OwnI w B 5 .u8 e.2.1 e.2.2
  lt : gj < B ∧ mb < B ∧ gj ≠ mb
  size : B ≤ w.heap.size
theorem lk_slots (E : List (Int × Value × List Int)) (k : Int) : lk (slots E) k = (E.find? (fun e => e.1 == k)).map (·.2.1) := by
  unfold lk slots
  rw [List.find?_map]
  simp [Function.comp_def]
theorem find_bytesOf (E : List (Int × Value × List Int)) (k : Int) : (bytesOf E).find? (fun p => p.1 == k) = (E.find? (fun e => e.1 == k)).map (fun e => (e.1, e.2.2)) := by
  unfold bytesOf
  rw [List.find?_map]
  simp [Function.comp_def]
theorem lk_isSome (E : List (Int × Value × List Int)) (k : Int) : (lk (slots E) k).isSome = hasIx (bytesOf E) k := by
  rw [lk_slots]
  unfold hasIx
  rw [find_bytesOf]
  simp
/-- What a place of the map holds, nil where it has none. -/
theorem Jn.entry {w : World} {B gj mb : Nat} {s : JS} {E : List (Int × Value × List Int)} (h : Jn w B gj mb s E) (k : Int) :
    ∃ A c, (lk (slots E) k).getD (.slice none 0 0) = .slice A (lkB s.es k).length c ∧ OwnI w B 5 .u8 (.slice A (lkB s.es k).length c) (lkB s.es k) := by
  rw [lk_slots, h.es]
  unfold lkB
  rw [find_bytesOf]
  cases hf : E.find? (fun e => e.1 == k) with
  | none => exact ⟨none, 0, rfl, OwnI.nil _ _ _ _⟩
  | some e =>
    have ho := h.own e (List.mem_of_find?_eq_some hf)
    obtain ⟨A, c, hv, _⟩ := ho.form
    refine ⟨A, c, by simpa using hv, ?_⟩
    simp only [Option.map_some, Option.getD_some]
    rw [← hv]
    exact ho
theorem Jn.under {w w' : World} {B gj mb : Nat} {s : JS} {E : List (Int × Value × List Int)} (h : Jn w B gj mb s E) (hb : Below w.heap.size w w') : Jn w' B gj mb s E :=
  ⟨h.blk.under hb, h.map.under hb, h.es, fun e he => (h.own e he).under hb, h.lt, Nat.le_trans h.size hb.size⟩
/-- Other blocks from B on turned, none of the joiner's own. -/
theorem Jn.keeps {S : Nat → Prop} {w w' : World} {B gj mb : Nat} {s : JS} {E : List (Int × Value × List Int)} (h : Jn w B gj mb s E) (k : Keeps S w w') (h1 : ¬ S gj) (h2 : ¬ S mb) (h3 : ∀ e ∈ E, ∀ g, e.2.1.ownBlock = some g → ¬ S g) : Jn w' B gj mb s E :=
  ⟨k.blk h.blk h1, k.map h.map h2, h.es, fun e he => k.own (h.own e he) (h3 e he), h.lt, Nat.le_trans h.size k.size⟩
/-- Bytes that can be read lie in none of the joiner's two blocks. -/
theorem Jn.readI {w w' : World} {B gj mb : Nat} {s : JS} {E : List (Int × Value × List Int)} (h : Jn w B gj mb s E) {A : Option Addr} {zs : List Int} (hr : ReadI w .u8 A zs) (k : Keeps (fun i => i = gj ∨ i = mb) w w') : ReadI w' .u8 A zs := by
  by_cases hz : zs = []
  · subst hz; exact ReadI.nil _ _ _
  · refine k.readI hr (fun b o hA hb => ?_)
    obtain ⟨b', o', e, hc⟩ := hr hz
    rw [hA] at e
    injection e with e
    injection e with e1 e2
    subst e1 e2
    have h0 := hc 0 (List.length_pos_iff.2 hz)
    rcases hb with rfl | rfl
    · rw [h.blk.cell] at h0
      match o, h0 with
      | 0, h0 => simp at h0
      | 1, h0 => simp at h0
      | 2, h0 => simp at h0
      | 3, h0 => simp at h0
      | 4, h0 => simp at h0
      | n + 5, h0 => simp at h0
    · obtain ⟨arr, clock, hm, _⟩ := h.map
      simp [World.cell?, hm] at h0
/-- One part more is in the map. -/
theorem Jn.put {w w3 w4 : World} {B gj mb : Nat} {s : JS} {E : List (Int × Value × List Int)} (h : Jn w B gj mb s E) (hb : Below w.heap.size w w3) {k : Int} {v : Value} {bs : List Int} (ho : OwnI w3 B 5 .u8 v bs) (hM : MapS w4 mb .i64 (slots E ++ [(k, v)])) (hg : w3.grownBy w4 (some mb)) :
    Jn w4 B gj mb { s with es := s.es ++ [(k, bs)] } (E ++ [(k, v, bs)]) := by
  have h3 := h.under hb
  have kg := Keeps.grown hg (S := fun i => i = mb) (fun g h => by injection h with h; exact h.symm)
  have hlt := h.lt
  refine ⟨kg.blk h3.blk hlt.2.2, by unfold slots; rw [List.map_append]; exact hM, by unfold bytesOf; rw [List.map_append, h.es]; rfl, fun e he => ?_, hlt, Nat.le_trans h3.size kg.size⟩
  rcases List.mem_append.1 he with he | he
  · exact kg.own (h3.own e he) (fun b hb e1 => by have := ((h3.own e he).lt b hb).1; omega)
  · rw [List.mem_singleton.1 he]
    exact kg.own ho (fun b hb e1 => by have := (ho.lt b hb).1; omega)
theorem Jn.drewN {w : World} {B gj mb : Nat} {s : JS} {E : List (Int × Value × List Int)} (h : Jn w B gj mb s E) (n : Nat) : Jn (w.drewN n) B gj mb s E := h.under (below_drewN (Below.refl _ _) n)
theorem Jn.drew {w : World} {B gj mb : Nat} {s : JS} {E : List (Int × Value × List Int)} (h : Jn w B gj mb s E) : Jn w.drew B gj mb s E := h.under (below_drew (Below.refl _ _))
/-- All parts have gone out: the map is empty, done stands. -/
theorem Jn.emptied {w w7 : World} {B gj mb : Nat} {s : JS} {E : List (Int × Value × List Int)} (h : Jn w B gj mb s E) (hM : MapS w7 mb .i64 []) (hg : w.grownBy w7 (some mb)) :
    Jn (w7.setCell ⟨gj, 1, none⟩ (.bool true)) B gj mb { s with es := [], done := true } [] ∧ Keeps (fun i => i = gj ∨ i = mb) w (w7.setCell ⟨gj, 1, none⟩ (.bool true)) := by
  have hlt := h.lt
  have kg := Keeps.grown hg (S := fun i => i = mb) (fun g h => by injection h with h; exact h.symm)
  have k2 : Keeps (fun i => i = gj ∨ i = mb) w (w7.setCell ⟨gj, 1, none⟩ (.bool true)) := (kg.mono (fun g h => .inr h)).setCell (.inl (.inl rfl)) _
  exact ⟨⟨Blk.s5_1 (kg.blk h.blk hlt.2.2) _, hM.set_ (p := ⟨gj, 1, none⟩) (fun e => hlt.2.2 e.symm) _, rfl, (fun _ h => by cases h), hlt, Nat.le_trans h.size k2.size⟩, k2⟩
end Go.Proofs.Ytpoobdccmaiaiaa
