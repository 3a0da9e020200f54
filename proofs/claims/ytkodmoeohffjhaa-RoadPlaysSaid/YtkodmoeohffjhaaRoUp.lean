/- heap.up walked. -/
import Derived.Test.YtkodmoeohffjhaaRoDyn
namespace Go.Proofs.Ytkodmoeohffjhaa
open Go.RowKit Go.Proofs.Ytkodmoeohffjhaa.Hp
set_option linter.unusedVariables false
set_option linter.unusedSimpArgs false

abbrev mlt (a b : ME) : Bool := aheadB a.1 b.1
structure UpR (m base gr g n c : Nat) (x y : Value) (L : List ME) (w : World) (jv : Value) (wr : World) : Prop where
  out : ∃ (j : Nat) (L' : List ME), jv = .int .i64 j ∧ j < m ∧ L'.Perm L ∧ UpAt mlt L' m j ∧ (∀ k, m ≤ k → L'[k]? = L[k]?) ∧ Fly wr base gr x y (.slice (some ⟨g, 0, none⟩) n c) L' ∧ w.grownBy wr (some g)

theorem ahead_iff (a b : MD) : aheadB a b = true ↔ a.due < b.due ∨ (a.due = b.due ∧ a.number < b.number) := by simp [aheadB]
theorem nahead_iff (a b : MD) : aheadB a b = false ↔ ¬ (a.due < b.due ∨ (a.due = b.due ∧ a.number < b.number)) := by rw [← ahead_iff, Bool.not_eq_true]
theorem ordr_mlt : Ordr mlt := by
  refine ⟨fun a b h => ?_, fun a b c h k => ?_⟩
  · rw [ahead_iff] at h
    rw [nahead_iff]
    omega
  · rw [nahead_iff] at *
    omega
set_option maxHeartbeats 1000000 in
set_option maxRecDepth 100000 in
theorem up_any (base gr g n c : Nat) (x y : Value) (L : List ME) (w : World) (h : Fly w base gr x y (.slice (some ⟨g, 0, none⟩) n c) L) (hn : n = L.length) (hm : n < 1000000) (m j : Nat) (hj : j < m) (hmn : m ≤ n) (hu : UpAt mlt L m j) :
    Calls Try.prog 43 #[.iface 74 (.pointer (some ⟨gr, 2, none⟩)), .int .i64 j] w fun e w' => e = .returned (.tuple #[]) ∧ ∃ L' : List ME, L'.Perm L ∧ Heap mlt L' m ∧ (∀ k, m ≤ k → L'[k]? = L[k]?) ∧ Fly w' base gr x y (.slice (some ⟨g, 0, none⟩) n c) L' ∧ w.grownBy w' (some g) := by
  have hR : UpR m base gr g n c x y L w (.int .i64 j) w := ⟨⟨j, L, rfl, hj, List.Perm.refl _, hu, fun _ _ => rfl, h, only_refl _ _⟩⟩
  clear hu h
  have HR := Lib.hid hR
  clear hR
  go_enter Try.func43, Try.ntmps43
  go_wp2_with fail
  go_loopw [1] (fun jv wr => UpR m base gr g n c x y L w jv wr) (fun jv _ => (intOf jv).toNat)
  case atStart => exact HR.out
  case round =>
    obtain ⟨j, L', rfl, hj, hp, hu, hk, hf, hg⟩ := hrel
    clear HR
    have hL := hp.length_eq
    rcases Nat.eq_zero_or_pos j with rfl | hj0
    · have hH := up_done hu (.inl rfl)
      have HF := Lib.hid (And.intro hp (And.intro hH (And.intro hk (And.intro hf hg))))
      clear hp hH hk hf hg hu
      go_wp2_with fail
      go_end0
      exact ⟨rfl, L', HF.out⟩
    · have hjl : j < L'.length := by omega
      have hpj : par j < j := by unfold par; omega
      have hpl : par j < L'.length := by omega
      obtain ⟨p, hpp⟩ : ∃ p, L'[par j]? = some p := ⟨_, List.getElem?_eq_getElem hpl⟩
      obtain ⟨q, hq⟩ : ∃ q, L'[j]? = some q := ⟨_, List.getElem?_eq_getElem hjl⟩
      have e2 : (((j : Int) - 1).tdiv 2) = ((par j : Nat) : Int) := by
        have e1 : (j : Int) - 1 = ((j - 1 : Nat) : Int) := by omega
        rw [e1]
        unfold par
        exact (Int.ofNat_tdiv (j - 1) 2).symm
      have e3 : (((par j : Nat) : Int) == (j : Int)) = false := by rw [beq_eq_false_iff_ne]; omega
      have cB : wr.cell? ⟨gr, 2, none⟩ = some (.slice (some ⟨g, 0, none⟩) n c) := hf.blk.cell 2
      have hML := meth_less cB
      have hO := hf.own
      rw [show L'.length = n by omega] at hO
      have hC := mless_any (some ⟨g, 0, none⟩) n c L' wr hO.read j (par j) q p hq hpp (by omega) (by omega)
      have ap : at_ L' (par j) = p := by simp [at_, hpp]
      have aq : at_ L' j = q := by simp [at_, hq]
      have hLn : L'.length = n := by omega
      have lB := hf.blk.lt
      cases hr : aheadB q.1 p.1
      · rw [hr] at hC
        have hH : Heap mlt L' m := up_done hu (.inr (by unfold le; rw [ap, aq]; exact hr))
        have HF := Lib.hid (And.intro hp (And.intro hH (And.intro hk (And.intro hf hg))))
        clear hp hH hk hf hg hu hn hL hLn hO hjl hpl hpp hq ap aq
        go_wp2_with (go_at_call 81; refine hC.mono ?_; rintro e w1 ⟨rfl, hb1⟩)
        go_end0
        obtain ⟨h1, h2, h3, h4, h5⟩ := HF.out
        exact ⟨rfl, L', h1, h2, h3, h4.under hb1, only_trans h5 (only_of_below hb1 none) (fun _ e => by cases e)⟩
      · rw [hr] at hC
        have hU := up_step ordr_mlt hu hj (by omega) hj0 (by rw [ap, aq]; exact hr)
        have hS : swapL L' (par j) j = (L'.set (par j) q).set j p := by unfold swapL; rw [hpp, hq]; rfl
        have hPm := swap_perm L' (par j) j hpl hjl
        rw [hS] at hU hPm
        have hk2 : ∀ k, m ≤ k → ((L'.set (par j) q).set j p)[k]? = L[k]? := fun k h => by
          rw [List.getElem?_set_ne (by omega), List.getElem?_set_ne (by omega)]
          exact hk k h
        have hSw := fun w' h => mswap_any g n c base L' w' h (par j) j p q hpp hq hLn.symm (by omega)
        have hfo := hf.off
        have HF := Lib.hid (And.intro (hPm.trans hp) (And.intro hU (And.intro hk2 (And.intro hf hg))))
        have lS : ((L'.set (par j) q).set j p).length = n := by simp [hLn]
        clear hp hk hf hg hu hn hL hLn hpl hpp hq ap aq hU hPm hk2 hS hjl
        go_wp2_with (go_at_call 81; refine hC.mono ?_; rintro e w1 ⟨rfl, hb1⟩; have hMS := meth_swap ((hb1.cell (p := ⟨gr, 2, none⟩) lB).trans cB))
        go_wp2_with (go_at_call 82; refine (hSw _ (OwnR.under hO hb1)).mono ?_; rintro e w2 ⟨rfl, ho2, hb2⟩)
        obtain ⟨h1, h2, h3, h4, h5⟩ := HF.out
        refine ⟨⟨par j, _, rfl, by omega, h1, h2, h3, ⟨(h4.blk.under hb1).grown hb2 (fun e => hfo e.symm), by rw [lS]; exact ho2, hfo⟩, only_trans (only_trans h5 (only_of_below hb1 none) (fun _ e => by cases e)) hb2 (fun g' e => .inl e)⟩, ?_⟩
        simp only [intOf]
        omega
end Go.Proofs.Ytkodmoeohffjhaa
