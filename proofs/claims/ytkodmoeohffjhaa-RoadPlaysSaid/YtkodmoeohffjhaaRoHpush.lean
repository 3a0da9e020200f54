/- heap.Push walked. -/
import Derived.Test.YtkodmoeohffjhaaRoUp
namespace Go.Proofs.Ytkodmoeohffjhaa
open Go.RowKit Go.Proofs.Ytkodmoeohffjhaa.Hp
set_option linter.unusedVariables false
set_option linter.unusedSimpArgs false

/-- A row that holds a mail lies in a block of its own. -/
theorem Fly.form {w : World} {base gr : Nat} {x y v : Value} {L : List ME} (h : Fly w base gr x y v L) (hL : L ≠ []) : ∃ g c, v = .slice (some ⟨g, 0, none⟩) L.length c := by
  obtain ⟨A, c, rfl, _, _⟩ := OwnR.form h.own
  rcases h.own.2 with ⟨_, h0⟩ | ⟨g, cap, cur, hv, _⟩
  · have := List.length_pos_iff.2 hL
    omega
  · injection hv with e1 e2 e3
    subst e1 e3
    exact ⟨g, c, rfl⟩
/-- What stands of the road's two blocks turns; the row may lie anew. -/
abbrev Two (gr : Nat) (v : Value) (b : Nat) : Prop := b = gr ∨ v.ownBlock = some b
set_option maxHeartbeats 1000000 in
set_option maxRecDepth 100000 in
theorem hpush_any (base gr : Nat) (x y v : Value) (L : List ME) (q : ME) (w : World) (h : Fly w base gr x y v L) (hm : L.length < 999999) (hbase : base ≤ w.heap.size) (hbs : base ≤ gr) (hH : Heap mlt L L.length) :
    Calls Try.prog 36 #[.iface 74 (.pointer (some ⟨gr, 2, none⟩)), .iface 71 (mailV q)] w fun e w' => e = .returned (.tuple #[]) ∧ ∃ v' L', L'.Perm (L ++ [q]) ∧ Heap mlt L' L'.length ∧ Fly w' base gr x y v' L' ∧ Keeps (Two gr v) w w' ∧ (v'.ownBlock = v.ownBlock ∨ ∃ b, v'.ownBlock = some b ∧ w.heap.size ≤ b) := by
  have hP := mpush_any base gr x y v L q w h (by omega) hbase hbs
  have hU := push_start ordr_mlt hH q rfl
  clear h hH
  have hmp := meth_push ⟨gr, 2, none⟩ w
  have hlen : (L ++ [q]).length = L.length + 1 := by simp
  go_enter Try.func36, Try.ntmps36
  go_wp2_with (go_at_call 84; refine hP.mono ?_; rintro e w1 ⟨rfl, v1, hF, hK, hv1⟩; have c1 : w1.cell? ⟨gr, 2, none⟩ = some v1 := hF.blk.cell 2; have hml := meth_len' c1)
  obtain ⟨g, c, rfl⟩ := hF.form (by simp)
  rw [hlen] at hF hv1 c1 hml ⊢
  have hUA := up_any base gr g (L.length + 1) c x y (L ++ [q]) w1 hF hlen.symm (by omega) (L.length + 1) L.length (by omega) (Nat.le_refl _) hU
  have hml' := mlen_any (some ⟨g, 0, none⟩) (L.length + 1) c w1
  have HK := Lib.hid hK
  have HV := Lib.hid hv1
  have lt := hF.blk.lt
  clear hK hv1 hF hU hP hlen
  go_wp2_with (first | (go_at_call 80; refine hml'.mono ?_; rintro e w2 ⟨rfl, rfl⟩) | (go_at_call 43; refine hUA.mono ?_; rintro e w3 ⟨rfl, L', hp, hh, hk, hf, hg⟩))
  go_end0
  refine ⟨rfl, _, L', hp, ?_, hf, ?_, ?_⟩
  · have : L'.length = L.length + 1 := by have := hp.length_eq; simpa using this
    rw [this]; exact hh
  · exact HK.out.trans (Keeps.grown hg (S := fun b => b = g) (fun b h => by injection h with h; exact h.symm)) (fun b hb hlt => by
      subst hb
      rcases HV.out with e | ⟨b', e, hge⟩
      · exact .inr e.symm
      · simp [Value.ownBlock] at e; omega)
  · exact HV.out
end Go.Proofs.Ytkodmoeohffjhaa
