/- heap.Pop, heap.Remove, heap.Fix walked. -/
import Derived.Test.YtkodmoeohffjhaaRoHpush
import Derived.Test.YtkodmoeohffjhaaRoDown1
namespace Go.Proofs.Ytkodmoeohffjhaa
open Go.RowKit Go.Proofs.Ytkodmoeohffjhaa.Hp
set_option linter.unusedVariables false
set_option linter.unusedSimpArgs false

theorem snoc_of {α : Type} (l : List α) (q : α) (n : Nat) (hl : l.length = n + 1) (hq : l[n]? = some q) : l = l.take n ++ [q] := by
  have h1 : n < l.length := by omega
  have : l[n] = q := by
    have := List.getElem?_eq_getElem h1
    rw [this] at hq
    exact Option.some.inj hq
  rw [← this]
  have e := List.take_append_getElem h1
  rw [e, List.take_of_length_le (by omega)]
theorem heap_take {l : List ME} {n : Nat} (h : Heap mlt l n) : Heap mlt (l.take n) n := fun k h0 h1 => by
  have hp : par k < n := by unfold par; omega
  have := h k h0 h1
  unfold le at *
  simp only [at_] at *
  rw [List.getElem?_take_of_lt hp, List.getElem?_take_of_lt h1]
  exact this
theorem gb_keeps {w w' : World} {gr : Nat} {v : Value} {r : Option Nat} (h : w.grownBy w' r) (hr : ∀ g, r = some g → g = gr ∨ v.ownBlock = some g) : Keeps (Two gr v) w w' := Keeps.grown h hr
/-- What heap.Pop leaves. -/
def HPopped (base gr : Nat) (x y v : Value) (n : Nat) (L : List ME) (q : ME) (w w' : World) : Prop :=
  ∃ v' L', L.Perm (q :: L') ∧ Heap mlt L' n ∧ L'.length = n ∧ Fly w' base gr x y v' L' ∧ Keeps (Two gr v) w w' ∧ v'.ownBlock = v.ownBlock
theorem hpopped {base gr g n c : Nat} {x y : Value} {L L1 : List ME} {q : ME} {w w3 w4 : World} (hn : L1.length = n + 1) (hp : L1.Perm L) (hq : L1[n]? = some q) (hH : Heap mlt L1 n)
    (h34 : Fly w4 base gr x y (.slice (some ⟨g, 0, none⟩) n c) (L1.take n)) (hk : Keeps (Two gr (.slice (some ⟨g, 0, none⟩) (n + 1) c)) w w3) (hg : w3.grownBy w4 (some gr)) :
    HPopped base gr x y (.slice (some ⟨g, 0, none⟩) (n + 1) c) n L q w w4 := by
  refine ⟨_, _, ?_, heap_take hH, by simp; omega, h34, hk.trans (Keeps.grown hg (S := fun b => b = gr) (fun b h => by injection h with h; exact h.symm)) (fun b hb _ => .inl hb), rfl⟩
  have e := snoc_of L1 q n hn hq
  have p1 : (L1.take n ++ [q]).Perm (q :: L1.take n) := List.perm_append_singleton q _
  rw [← e] at p1
  exact hp.symm.trans p1

set_option maxHeartbeats 2000000 in
set_option maxRecDepth 100000 in
theorem hpop_any (base gr : Nat) (x y v : Value) (n : Nat) (L : List ME) (q : ME) (w : World) (h : Fly w base gr x y v L) (hl : L.length = n + 1) (hm : n < 999999) (hH : Heap mlt L L.length) (hq : L[0]? = some q) :
    Calls Try.prog 27 #[.iface 74 (.pointer (some ⟨gr, 2, none⟩))] w fun e w' => e = .returned (.iface 71 (mailV q)) ∧ HPopped base gr x y v n L q w w' := by
  obtain ⟨g, c, hv⟩ := h.form (by rintro rfl; simp at hl)
  rw [hl] at hv hH
  subst hv
  obtain ⟨p, hp⟩ : ∃ p, L[n]? = some p := ⟨_, List.getElem?_eq_getElem (by omega)⟩
  have cB : w.cell? ⟨gr, 2, none⟩ = some (.slice (some ⟨g, 0, none⟩) (n + 1) c) := h.blk.cell 2
  have lB := h.blk.lt
  have hML := meth_len' cB
  have hMS := meth_swap cB
  have hO := h.own
  rw [hl] at hO
  have hLen := mlen_any (some ⟨g, 0, none⟩) (n + 1) c w
  push_cast at hLen
  have hSw := mswap_any g (n + 1) c base L w hO 0 n q p hq hp hl.symm (by omega)
  have e0 : swapL L 0 n = (L.set 0 p).set n q := by unfold swapL; rw [hq, hp]; rfl
  have hD := pop_start hH (by omega)
  rw [e0] at hD
  have hPm := swap_perm L 0 n (by omega) (by omega)
  rw [e0] at hPm
  have hlS : ((L.set 0 p).set n q).length = n + 1 := by simp [hl]
  have hnq : ((L.set 0 p).set n q)[n]? = some q := by rw [List.getElem?_set_self (by simp; omega)]
  have hDn := fun w1 (h1 : Fly w1 base gr x y (.slice (some ⟨g, 0, none⟩) (n + 1) c) ((L.set 0 p).set n q)) => down_any base gr g (n + 1) c x y _ w1 h1 hlS.symm (by omega) n 0 (by omega) (by omega) hD.but
  have HDn := Lib.hid hDn
  have HH := Lib.hid (And.intro h (And.intro hPm (And.intro hlS hnq)))
  clear h hl hH hq hp hO e0 hD hPm hlS hnq hDn
  go_enter Try.func27, Try.ntmps27
  go_wp2_with (go_at_call 80; refine hLen.mono ?_; rintro e w' ⟨rfl, rfl⟩)
  go_wp2_with (go_at_call 82; refine hSw.mono ?_; rintro e w1 ⟨rfl, ho1, hg1⟩)
  obtain ⟨h, hPm, hlS, hnq⟩ := HH.out
  have hF1 : Fly w1 base gr x y (.slice (some ⟨g, 0, none⟩) (n + 1) c) ((L.set 0 p).set n q) := ⟨h.blk.grown hg1 (fun e => h.off e.symm), by rw [hlS]; exact ho1, h.off⟩
  have hD1 := HDn.out w1 hF1
  have HG1 := Lib.hid hg1
  have HF1 := Lib.hid hF1
  clear h hPm hlS hnq HDn hF1 hg1 ho1 hSw hLen
  go_wp2_with (go_at_call 35; refine hD1.mono ?_; rintro e w3 ⟨r, rfl, L1, hp1, hc1, hk1, hf1, hg1⟩; have hmp := meth_pop ⟨gr, 2, none⟩ w3)
  obtain ⟨h, hPm, hlS, hnq⟩ := HH.out
  have hl1 : L1.length = n + 1 := by rw [hp1.length_eq]; exact hlS
  have hq1 : L1[n]? = some q := by rw [hk1 n (Nat.le_refl _)]; exact hnq
  have hH1 : Heap mlt L1 n := by
    rcases hc1 with ⟨_, h⟩ | ⟨_, _, h⟩
    · exact h
    · exact up_done h (.inl rfl)
  have hPP := mpop_any base gr g n c x y L1 q w3 hf1 hl1 hq1 (by omega)
  have HX := Lib.hid (fun w4 h34 hg => hpopped (w := w) (w3 := w3) (w4 := w4) (c := c) (g := g) (x := x) (y := y) (base := base) (gr := gr) hl1 (hp1.trans hPm) hq1 hH1 h34 ((gb_keeps HG1.out (fun b h => by injection h with h; exact .inr (congrArg some h))).trans (gb_keeps hg1 (fun b h => by injection h with h; exact .inr (congrArg some h))) (fun _ h _ => h)) hg)
  clear h hPm hlS hnq hl1 hq1 hH1 hp1 hc1 hk1 hf1 hg1
  go_wp2_with (go_at_call 83; refine hPP.mono ?_; rintro e w4 ⟨rfl, hF4, hg4⟩)
  go_ret
  exact ⟨rfl, HX.out _ hF4 hg4⟩
end Go.Proofs.Ytkodmoeohffjhaa
