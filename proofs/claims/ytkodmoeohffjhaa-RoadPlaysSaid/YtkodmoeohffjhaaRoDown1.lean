/- heap.down walked. -/
import Derived.Test.YtkodmoeohffjhaaRoDown
import Derived.Deep.CutBlock
import Derived.Deep.DeepCutAuto
namespace Go.Proofs.Ytkodmoeohffjhaa
open Go.RowKit Go.Proofs.Ytkodmoeohffjhaa.Hp
set_option linter.unusedVariables false
set_option linter.unusedSimpArgs false

theorem mlt_irr (a : ME) : mlt a a = false := by
  rw [nahead_iff]
  omega
/-- The lesser child of i. -/
structure Child (m i : Nat) (L' : List ME) (wr : World) (jv : Value) (wx : World) : Prop where
  out : ∃ (j : Nat) (q : ME), jv = .int .i64 j ∧ par j = i ∧ 0 < j ∧ j < m ∧ L'[j]? = some q ∧ (∀ k, 0 < k → k < m → par k = i → le mlt (at_ L' j) (at_ L' k)) ∧ Below wr.heap.size wr wx
theorem child_1 {m i : Nat} {L' : List ME} {wr : World} {q : ME} (h1 : 2 * i + 1 < m) (h2 : m ≤ 2 * i + 2) (hq : L'[2 * i + 1]? = some q) : Child m i L' wr (.int .i64 ((2 * i + 1 : Nat) : Int)) wr := by
  refine ⟨2 * i + 1, q, rfl, by unfold par; omega, by omega, h1, hq, fun k h0 h3 h4 => ?_, Below.refl _ _⟩
  rcases par_cases h0 h4 with e | e
  · subst e; unfold le; simp only [at_, hq]; exact mlt_irr q
  · omega
theorem child_2 {m i : Nat} {L' : List ME} {wr wx : World} {q q2 : ME} (h1 : 2 * i + 1 < m) (h2 : 2 * i + 2 < m) (hq : L'[2 * i + 1]? = some q) (hq2 : L'[2 * i + 2]? = some q2) (hr : aheadB q2.1 q.1 = false) (hb : Below wr.heap.size wr wx) : Child m i L' wr (.int .i64 ((2 * i + 1 : Nat) : Int)) wx := by
  refine ⟨2 * i + 1, q, rfl, by unfold par; omega, by omega, h1, hq, fun k h0 h3 h4 => ?_, hb⟩
  rcases par_cases h0 h4 with e | e <;> subst e <;> unfold le <;> simp only [at_, hq, hq2]
  · exact mlt_irr q
  · exact hr
theorem child_3 {m i : Nat} {L' : List ME} {wr wx : World} {q q2 : ME} (h1 : 2 * i + 1 < m) (h2 : 2 * i + 2 < m) (hq : L'[2 * i + 1]? = some q) (hq2 : L'[2 * i + 2]? = some q2) (hr : aheadB q2.1 q.1 = true) (hb : Below wr.heap.size wr wx) : Child m i L' wr (.int .i64 ((2 * i + 2 : Nat) : Int)) wx := by
  refine ⟨2 * i + 2, q2, rfl, by unfold par; omega, by omega, h2, hq2, fun k h0 h3 h4 => ?_, hb⟩
  rcases par_cases h0 h4 with e | e <;> subst e <;> unfold le <;> simp only [at_, hq, hq2]
  · exact ordr_mlt.asym _ _ hr
  · exact mlt_irr q2
set_option maxHeartbeats 4000000 in
set_option maxRecDepth 100000 in
theorem down_any (base gr g n c : Nat) (x y : Value) (L : List ME) (w : World) (h : Fly w base gr x y (.slice (some ⟨g, 0, none⟩) n c) L) (hn : n = L.length) (hm : n < 1000000) (m i0 : Nat) (hi0 : i0 < n) (hmn : m ≤ n) (hu : ButAt mlt L m i0) :
    Calls Try.prog 35 #[.iface 74 (.pointer (some ⟨gr, 2, none⟩)), .int .i64 i0, .int .i64 m] w fun e w' => ∃ r, e = .returned (.bool r) ∧ DownEnd m base gr g n c i0 x y L w r w' := by
  have HR := Lib.hid (show DownR m base gr g n c i0 x y L w (.int .i64 i0) w from ⟨⟨i0, L, rfl, Nat.le_refl _, hi0, List.Perm.refl _, hu, .inl ⟨rfl, rfl⟩, fun _ _ => rfl, h, only_refl _ _⟩⟩)
  have HN := Lib.hid hn
  clear hu h hn
  go_enter Try.func35, Try.ntmps35
  go_wp2_with fail
  go_loopw [7] (fun iv wr => DownR m base gr g n c i0 x y L w iv wr) (fun iv _ => n - (intOf iv).toNat)
  case atStart => exact HR.out
  case round =>
    obtain ⟨i, L', rfl, hi, hin, hp, hb, hc, hk, hf, hg⟩ := hrel
    clear HR
    rcases Nat.lt_or_ge (2 * i + 1) m with h1 | h1
    · have hLn : L'.length = n := by have := hp.length_eq; have := HN.out; omega
      obtain ⟨p, hp0⟩ : ∃ p, L'[i]? = some p := ⟨_, List.getElem?_eq_getElem (by omega)⟩
      obtain ⟨q, hq⟩ : ∃ q, L'[2 * i + 1]? = some q := ⟨_, List.getElem?_eq_getElem (by omega)⟩
      have hO := hf.own
      rw [hLn] at hO
      have cB : wr.cell? ⟨gr, 2, none⟩ = some (.slice (some ⟨g, 0, none⟩) n c) := hf.blk.cell 2
      have lB := hf.blk.lt
      have d1 : decide ((m : Int) ≤ 2 * (i : Int) + 1) = false := decide_eq_false (by omega)
      have d3 : decide (2 * (i : Int) + 1 < 0) = false := decide_eq_false (by omega)
      have HO := Lib.hid hO
      have HLn := Lib.hid hLn
      have HPQ := Lib.hid (And.intro hp0 hq)
      have HALL := Lib.hid (And.intro hp (And.intro hb (And.intro hc (And.intro hk (And.intro hf hg)))))
      have hlq : 2 * i + 2 < m → ∃ q2, L'[2 * i + 2]? = some q2 := fun h => ⟨_, List.getElem?_eq_getElem (by omega)⟩
      have HLQ := Lib.hid hlq
      clear hO hLn hp0 hq hp hb hc hk hf hg hlq
      go_upto_region 6 with (fail)
      go_cut [33] from 25 to 33 (fun s wx => ∃ b : Bool, s = .bool b ∧ Child m i L' wr (.int .i64 (((if b then 2 * i + 2 else 2 * i + 1 : Nat) : Nat) : Int)) wx)
      case first =>
        rcases Nat.lt_or_ge (2 * i + 2) m with h2 | h2
        · obtain ⟨q2, hq2⟩ := HLQ.out h2
          have d2 : decide (2 * (i : Int) + 1 + 1 < (m : Int)) = true := decide_eq_true (by omega)
          have hML := meth_less cB
          have hL1 := mless_any (some ⟨g, 0, none⟩) n c L' wr HO.out.read (2 * i + 2) (2 * i + 1) q2 q hq2 HPQ.out.2 HLn.out.symm (by omega)
          push_cast at hL1
          cases hr1 : aheadB q2.1 q.1
          · rw [hr1] at hL1
            have HX := Lib.hid (fun wx (hb : Below wr.heap.size wr wx) => child_2 h1 h2 HPQ.out.2 hq2 hr1 hb)
            clear hq2 hr1
            go_wp2_with (go_at_call 81; refine (hL1).mono ?_; rintro e w1 ⟨rfl, hb1⟩)
            go_meet
            case rel => exact ⟨_, rfl, HX.out _ hb1⟩
          · rw [hr1] at hL1
            have HX := Lib.hid (fun wx (hb : Below wr.heap.size wr wx) => child_3 h1 h2 HPQ.out.2 hq2 hr1 hb)
            clear hq2 hr1
            go_wp2_with (go_at_call 81; refine (hL1).mono ?_; rintro e w1 ⟨rfl, hb1⟩)
            go_meet
            case rel => exact ⟨_, rfl, HX.out _ hb1⟩
        · have d2 : decide (2 * (i : Int) + 1 + 1 < (m : Int)) = false := decide_eq_false (by omega)
          have HX := Lib.hid (child_1 (wr := wr) h1 h2 HPQ.out.2)
          go_wp2_with fail
          go_meet
          case rel => exact ⟨_, rfl, HX.out⟩
      case rest =>
        obtain ⟨b, rfl, hch⟩ := hcut
        have HCH := Lib.hid hch
        clear hch
        go_upto_if 33 with (fail)
        go_cut [9] from 34 to 34 (fun jv wx => Child m i L' wr jv wx)
        case first =>
          cases b
          · have hch := HCH.out
            simp only [Bool.false_eq_true, if_false] at hch
            push_cast at hch
            have HC2 := Lib.hid hch
            clear hch
            go_wp2_with fail
            go_meet
            case rel => exact HC2.out
          · have hch := HCH.out
            simp only [if_true] at hch
            push_cast at hch
            have HC2 := Lib.hid hch
            clear hch
            go_wp2_with fail
            go_meet
            case rel => first | exact HC2.out | (rw [Int.add_assoc]; exact HC2.out)
        case rest =>
        clear HCH
        obtain ⟨j, q', rfl, hj, hj0, hjm, hqj, hmin, hb0⟩ := hcut
        obtain ⟨hp, hb, hc, hk, hf, hg⟩ := HALL.out
        have hML := meth_less ((hb0.cell (p := ⟨gr, 2, none⟩) lB).trans cB)
        have hL3 := mless_any (some ⟨g, 0, none⟩) n c L' wc (OwnR.under HO.out hb0).read j i q' p hqj HPQ.out.1 HLn.out.symm (by omega)
        cases hr : aheadB q'.1 p.1
        · rw [hr] at hL3
          have HF := Lib.hid (down_end (c := c) hi hp hb hc hk hf hg (fun k h0 h2 h3 => by
            refine ordr_mlt.le_trans _ _ _ ?_ (hmin k h0 h2 h3)
            simp only [at_, HPQ.out.1, hqj]
            exact hr))
          clear hp hb hc hk hf hg hmin hqj hr
          go_wp2_with (go_at_call 81; refine hL3.mono ?_; rintro e w1 ⟨rfl, hb1⟩)
          go_ret
          exact ⟨_, rfl, HF.out.under (hb0.trans (hb1.mono hb0.size))⟩
        · rw [hr] at hL3
          have hij : i < j := by unfold par at hj; omega
          have HX := Lib.hid (fun w1 w2 => down_next (w1 := w1) (w2 := w2) (c := c) hi hmn HLn.out hp hb hk hf hg hj hj0 hjm HPQ.out.1 hqj hr hmin)
          have HSW := Lib.hid (fun w' h => mswap_any g n c base L' w' h i j p q' HPQ.out.1 hqj HLn.out.symm (by omega))
          clear hp hb hc hk hf hg hmin hqj hr
          go_wp2_with (go_at_call 81; refine hL3.mono ?_; rintro e w1 ⟨rfl, hb1⟩; have hb3 := hb0.trans (hb1.mono hb0.size); have hMS := meth_swap ((hb3.cell (p := ⟨gr, 2, none⟩) lB).trans cB))
          go_wp2_with (go_at_call 82; refine (HSW.out _ (OwnR.under HO.out hb3)).mono ?_; rintro e w4 ⟨rfl, ho4, hb4⟩)
          have hR := HX.out _ _ hb3 ho4 hb4
          have hme : n - j < n - i := by omega
          go_roundw
          case rel => exact hR
          case measure => simp only [intOf]; omega
    · have HF := Lib.hid (down_end (c := c) hi hp hb hc hk hf hg (fun k h0 h2 h3 => by rcases par_cases h0 h3 with e | e <;> omega))
      have d1 : decide ((m : Int) ≤ 2 * (i : Int) + 1) = true := decide_eq_true (by omega)
      clear hp hb hc hk hf hg
      go_wp2_with fail
      go_ret
      exact ⟨_, rfl, HF.out⟩
end Go.Proofs.Ytkodmoeohffjhaa
