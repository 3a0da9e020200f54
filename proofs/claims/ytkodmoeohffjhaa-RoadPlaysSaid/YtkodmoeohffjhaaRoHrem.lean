/- heap.Remove, heap.Fix walked. -/
import Derived.Test.YtkodmoeohffjhaaRoHpop
namespace Go.Proofs.Ytkodmoeohffjhaa
open Go.RowKit Go.Proofs.Ytkodmoeohffjhaa.Hp
set_option linter.unusedVariables false
set_option linter.unusedSimpArgs false

theorem heap_less {l : List ME} {n m : Nat} (h : Heap mlt l n) (hm : m ≤ n) : Heap mlt l m := fun k h0 h1 => h k h0 (by omega)
set_option maxHeartbeats 2000000 in
set_option maxRecDepth 100000 in
theorem hremove_last (base gr : Nat) (x y v : Value) (n : Nat) (L : List ME) (q : ME) (w : World) (h : Fly w base gr x y v L) (hl : L.length = n + 1) (hm : n < 999999) (hH : Heap mlt L L.length) (hq : L[n]? = some q) :
    Calls Try.prog 30 #[.iface 74 (.pointer (some ⟨gr, 2, none⟩)), .int .i64 n] w fun e w' => e = .returned (.iface 71 (mailV q)) ∧ HPopped base gr x y v n L q w w' := by
  obtain ⟨g, c, hv⟩ := h.form (by rintro rfl; simp at hl)
  rw [hl] at hv hH
  subst hv
  have cB : w.cell? ⟨gr, 2, none⟩ = some (.slice (some ⟨g, 0, none⟩) (n + 1) c) := h.blk.cell 2
  have hML := meth_len' cB
  have hmp := meth_pop ⟨gr, 2, none⟩ w
  have hLen := mlen_any (some ⟨g, 0, none⟩) (n + 1) c w
  push_cast at hLen
  have hPP := mpop_any base gr g n c x y L q w h hl hq (by omega)
  have HX := Lib.hid (fun w4 h34 hg => hpopped (w := w) (w3 := w) (w4 := w4) (c := c) (g := g) (x := x) (y := y) (base := base) (gr := gr) hl (List.Perm.refl L) hq (heap_less hH (Nat.le_succ n)) h34 (Keeps.refl _ _) hg)
  have dn : ((n : Int) != (n : Int)) = false := by simp
  clear h hl hH hq
  go_enter Try.func30, Try.ntmps30
  go_wp2_with (go_at_call 80; refine hLen.mono ?_; rintro e w' ⟨rfl, rfl⟩)
  go_wp2_with (go_at_call 83; refine hPP.mono ?_; rintro e w4 ⟨rfl, hF4, hg4⟩)
  go_ret
  exact ⟨rfl, HX.out _ hF4 hg4⟩
set_option maxHeartbeats 4000000 in
set_option maxRecDepth 100000 in
theorem hremove_mid (base gr : Nat) (x y v : Value) (n i : Nat) (L : List ME) (q : ME) (w : World) (h : Fly w base gr x y v L) (hl : L.length = n + 1) (hm : n < 999999) (hH : Heap mlt L L.length) (hi : i < n) (hq : L[i]? = some q) :
    Calls Try.prog 30 #[.iface 74 (.pointer (some ⟨gr, 2, none⟩)), .int .i64 i] w fun e w' => e = .returned (.iface 71 (mailV q)) ∧ HPopped base gr x y v n L q w w' := by
  obtain ⟨g, c, hv⟩ := h.form (by rintro rfl; simp at hl)
  rw [hl] at hv hH
  subst hv
  obtain ⟨p, hp⟩ : ∃ p, L[n]? = some p := ⟨_, List.getElem?_eq_getElem (by omega)⟩
  have cB : w.cell? ⟨gr, 2, none⟩ = some (.slice (some ⟨g, 0, none⟩) (n + 1) c) := h.blk.cell 2
  have lB := h.blk.lt
  have hML := meth_len' cB
  have hMS := meth_swap cB
  have hO := h.own
  rw [hl] at hO
  have hLen := mlen_any (some ⟨g, 0, none⟩) (n + 1) c w
  push_cast at hLen
  have hSw := mswap_any g (n + 1) c base L w hO i n q p hq hp hl.symm (by omega)
  have e0 : swapL L i n = (L.set i p).set n q := by unfold swapL; rw [hq, hp]; rfl
  have hD := remove_start ordr_mlt hH (by omega) hi
  rw [e0] at hD
  have hPm := swap_perm L i n (by omega) (by omega)
  rw [e0] at hPm
  have hlS : ((L.set i p).set n q).length = n + 1 := by simp [hl]
  have hnq : ((L.set i p).set n q)[n]? = some q := by rw [List.getElem?_set_self (by simp; omega)]
  have hDn := fun w1 (h1 : Fly w1 base gr x y (.slice (some ⟨g, 0, none⟩) (n + 1) c) ((L.set i p).set n q)) => down_any base gr g (n + 1) c x y _ w1 h1 hlS.symm (by omega) n i (by omega) (by omega) hD
  have hUp := fun w1 (h1 : Fly w1 base gr x y (.slice (some ⟨g, 0, none⟩) (n + 1) c) ((L.set i p).set n q)) (hu : UpAt mlt ((L.set i p).set n q) n i) => up_any base gr g (n + 1) c x y _ w1 h1 hlS.symm (by omega) n i hi (by omega) hu
  have dn : ((n : Int) != (i : Int)) = true := by rw [bne_iff_ne]; omega
  have HDn := Lib.hid hDn
  have HUp := Lib.hid hUp
  have HH := Lib.hid (And.intro h (And.intro hPm (And.intro hlS hnq)))
  clear h hl hH hq hp hO e0 hD hPm hlS hnq hDn hUp
  go_enter Try.func30, Try.ntmps30
  go_wp2_with (go_at_call 80; refine hLen.mono ?_; rintro e w' ⟨rfl, rfl⟩)
  go_wp2_with (go_at_call 82; refine hSw.mono ?_; rintro e w1 ⟨rfl, ho1, hg1⟩)
  obtain ⟨h, hPm, hlS, hnq⟩ := HH.out
  have hF1 : Fly w1 base gr x y (.slice (some ⟨g, 0, none⟩) (n + 1) c) ((L.set i p).set n q) := ⟨h.blk.grown hg1 (fun e => h.off e.symm), by rw [hlS]; exact ho1, h.off⟩
  have hD1 := HDn.out w1 hF1
  have HG1 := Lib.hid hg1
  have HF1 := Lib.hid hF1
  clear h hPm hlS hnq HDn hF1 hg1 ho1 hSw hLen
  go_wp2_with (go_at_call 35; refine hD1.mono ?_; rintro e w3 ⟨r, rfl, hc1⟩; have HC1 := Lib.hid hc1; clear hc1; have hmp := meth_pop ⟨gr, 2, none⟩ w3)
  all_goals
    obtain ⟨h, hPm, hlS, hnq⟩ := HH.out
    obtain ⟨L1, hp1, hc1, hk1, hf1, hg1⟩ := HC1.out
  · rcases hc1 with ⟨h0, _⟩ | ⟨_, e1, hu⟩
    · rename_i hr; simp_all
    · subst e1
      have hu1 := HUp.out w3 hf1 hu
      have HG13 := Lib.hid hg1
      clear hp1 hu hk1 hf1 hg1 HUp HC1 h hPm hlS hnq
      go_wp2_with (go_at_call 43; refine hu1.mono ?_; rintro e w5 ⟨rfl, L1, hp1, hH1, hk1, hf1, hg1⟩; have hmp := meth_pop ⟨gr, 2, none⟩ w5)
      obtain ⟨h, hPm, hlS, hnq⟩ := HH.out
      have hl1 : L1.length = n + 1 := by rw [hp1.length_eq]; exact hlS
      have hq1 : L1[n]? = some q := by rw [hk1 n (Nat.le_refl _)]; exact hnq
      have hPP := mpop_any base gr g n c x y L1 q w5 hf1 hl1 hq1 (by omega)
      have kk : ∀ {a b : World}, a.grownBy b (some g) → Keeps (Two gr (.slice (some ⟨g, 0, none⟩) (n + 1) c)) a b := fun h => gb_keeps h (fun b h => by injection h with h; exact .inr (congrArg some h))
      have HX := Lib.hid (fun w4 h34 hg => hpopped (w := w) (w3 := w5) (w4 := w4) (c := c) (g := g) (x := x) (y := y) (base := base) (gr := gr) hl1 (hp1.trans hPm) hq1 hH1 h34 (((kk HG1.out).trans (kk HG13.out) (fun _ h _ => h)).trans (kk hg1) (fun _ h _ => h)) hg)
      clear h hPm hlS hnq hl1 hq1 hH1 hp1 hk1 hf1 hg1
      go_wp2_with (go_at_call 83; refine hPP.mono ?_; rintro e w4 ⟨rfl, hF4, hg4⟩)
      go_ret
      exact ⟨rfl, HX.out _ hF4 hg4⟩
  · have hH1 : Heap mlt L1 n := by
      rcases hc1 with ⟨_, h⟩ | ⟨h0, _⟩
      · exact h
      · rename_i hr; simp_all
    have hl1 : L1.length = n + 1 := by rw [hp1.length_eq]; exact hlS
    have hq1 : L1[n]? = some q := by rw [hk1 n (Nat.le_refl _)]; exact hnq
    have hPP := mpop_any base gr g n c x y L1 q w3 hf1 hl1 hq1 (by omega)
    have kk : ∀ {a b : World}, a.grownBy b (some g) → Keeps (Two gr (.slice (some ⟨g, 0, none⟩) (n + 1) c)) a b := fun h => gb_keeps h (fun b h => by injection h with h; exact .inr (congrArg some h))
    have HX := Lib.hid (fun w4 h34 hg => hpopped (w := w) (w3 := w3) (w4 := w4) (c := c) (g := g) (x := x) (y := y) (base := base) (gr := gr) hl1 (hp1.trans hPm) hq1 hH1 h34 ((kk HG1.out).trans (kk hg1) (fun _ h _ => h)) hg)
    clear h hPm hlS hnq hl1 hq1 hH1 hp1 hc1 hk1 hf1 hg1 HC1 HUp
    go_wp2_with (go_at_call 83; refine hPP.mono ?_; rintro e w4 ⟨rfl, hF4, hg4⟩)
    go_ret
    exact ⟨rfl, HX.out _ hF4 hg4⟩
/-- What heap.Fix leaves. -/
def HFixed (base gr : Nat) (x y v : Value) (L : List ME) (w w' : World) : Prop :=
  ∃ L', L'.Perm L ∧ Heap mlt L' L'.length ∧ Fly w' base gr x y v L' ∧ Keeps (Two gr v) w w'
set_option maxHeartbeats 4000000 in
set_option maxRecDepth 100000 in
theorem hfix_any (base gr : Nat) (x y v : Value) (n i : Nat) (L : List ME) (w : World) (h : Fly w base gr x y v L) (hl : L.length = n) (hm : n < 999999) (hi : i < n) (hu : ButAt mlt L n i) :
    Calls Try.prog 33 #[.iface 74 (.pointer (some ⟨gr, 2, none⟩)), .int .i64 i] w fun e w' => e = .returned (.tuple #[]) ∧ HFixed base gr x y v L w w' := by
  obtain ⟨g, c, hv⟩ := h.form (by rintro rfl; simp at hl; omega)
  rw [hl] at hv
  subst hv
  have cB : w.cell? ⟨gr, 2, none⟩ = some (.slice (some ⟨g, 0, none⟩) n c) := h.blk.cell 2
  have hML := meth_len' cB
  have hLen := mlen_any (some ⟨g, 0, none⟩) n c w
  have hD := down_any base gr g n c x y L w h hl.symm (by omega) n i hi (by omega) hu
  have HUp := Lib.hid (fun w1 (h1 : Fly w1 base gr x y (.slice (some ⟨g, 0, none⟩) n c) L) (hu : UpAt mlt L n i) => up_any base gr g n c x y L w1 h1 hl.symm (by omega) n i hi (by omega) hu)
  have HL := Lib.hid hl
  have kk : Hid (∀ {a b : World}, a.grownBy b (some g) → Keeps (Two gr (.slice (some ⟨g, 0, none⟩) n c)) a b) := Lib.hid (fun h => gb_keeps h (fun b h => by injection h with h; exact .inr (congrArg some h)))
  clear h hu hl
  go_enter Try.func33, Try.ntmps33
  go_wp2_with (first | (go_at_call 80; refine hLen.mono ?_; rintro e w' ⟨rfl, rfl⟩) | (go_at_call 35; refine hD.mono ?_; rintro e w3 ⟨r, rfl, hc1⟩; have HC1 := Lib.hid hc1; clear hc1))
  · obtain ⟨L1, hp1, hc1, hk1, hf1, hg1⟩ := HC1.out
    rcases hc1 with ⟨h0, _⟩ | ⟨_, e1, hu⟩
    · rename_i hr; simp_all
    · subst e1
      have hu1 := HUp.out w3 hf1 hu
      have HG13 := Lib.hid hg1
      clear hp1 hu hk1 hf1 hg1 HUp HC1
      go_wp2_with (go_at_call 43; refine hu1.mono ?_; rintro e w5 ⟨rfl, hh⟩; have HH := Lib.hid hh; clear hh)
      go_end0
      obtain ⟨L2, hp1, hH1, hk1, hf1, hg1⟩ := HH.out
      exact ⟨rfl, L2, hp1, by rw [hp1.length_eq, HL.out]; exact hH1, hf1, (kk.out HG13.out).trans (kk.out hg1) (fun _ h _ => h)⟩
  · obtain ⟨L1, hp1, hc1, hk1, hf1, hg1⟩ := HC1.out
    have hH1 : Heap mlt L1 n := by
      rcases hc1 with ⟨_, h⟩ | ⟨h0, _⟩
      · exact h
      · rename_i hr; simp_all
    have HX := Lib.hid (show HFixed base gr x y (.slice (some ⟨g, 0, none⟩) n c) L w w3 from ⟨L1, hp1, by rw [hp1.length_eq, HL.out]; exact hH1, hf1, kk.out hg1⟩)
    clear hp1 hc1 hk1 hf1 hg1 hH1 HUp HC1
    go_wp2_with fail
    go_end0
    exact ⟨rfl, HX.out⟩
end Go.Proofs.Ytkodmoeohffjhaa
