/- Road.Tick walked. -/
import Derived.Test.YtkodmoeohffjhaaRoTick0
import Derived.Deep.LoopGhost
namespace Go.Proofs.Ytkodmoeohffjhaa
open Go.RowKit Go.Proofs.Ytkodmoeohffjhaa.Hp
set_option linter.unusedVariables false
set_option linter.unusedSimpArgs false

theorem tick_nil (w : World) : Calls Try.prog 10 #[.pointer none] w fun e w' => e = .returned (.slice none 0 0) ∧ w = w' := by
  go_enter Try.func10, Try.ntmps10
  go_wp2
  go_ret
  exact ⟨rfl, rfl⟩
theorem TickR.under {B gr : Nat} {now put : Int} {v v' out : Value} {L O L' : List ME} {w wr w' : World} (h : TickR B gr now put v L w O L' v' out wr) (hb : Below wr.heap.size wr w') : TickR B gr now put v L w O L' v' out w' :=
  ⟨h.road.under hb, h.perm, h.sort, h.le, h.due, ⟨fun q hq => (h.gone.own q hq).under hb, h.gone.apart, h.gone.off⟩, h.lo, h.lov, h.log, h.row.under hb, h.keeps.trans (Keeps.under hb (fun _ => False)) (fun _ h _ => h.elim), h.own'⟩
theorem TickR.row2 {B gr n : Nat} {now put : Int} {v v' out : Value} {L O L' : List ME} {w wr w2 : World} {q : ME} (h : TickR B gr now put v L w O L' v' out wr) (hP : HPopped B gr (.int .i64 now) (.int .i64 put) v' n L' q wr w2) : OwnR w2 w.heap.size 32 3 out O.length (O.flatMap gcell) ∧ w.heap.size ≤ w2.heap.size := by
  obtain ⟨v2, L2, hp, hH, hl2, hF, hK, hv⟩ := hP
  refine ⟨hK.row h.row (fun g hg e => ?_), Nat.le_trans h.keeps.size hK.size⟩
  have h1 := (OwnR.blocks h.row g hg).1
  rcases e with e | e
  · have := h.log; omega
  · rw [h.own'] at e
    have := h.lov g e
    omega
set_option maxHeartbeats 2000000 in
set_option maxRecDepth 100000 in
theorem tick_any (B gr : Nat) (now put : Int) (v : Value) (L : List ME) (w : World) (h : RoadAt B gr now put v L w) (hL : L.length < 99999) (hw0 : 0 ≤ now) (hw1 : now < 1000000000) :
    Calls Try.prog 10 #[.pointer (some ⟨gr, 0, none⟩)] w (RTicked B gr (now + 1) put v L w) := by
  have c0 : w.cell? ⟨gr, 0, none⟩ = some (.int .i64 now) := h.fly.blk.cell 0
  have f0 : w.frozen? ⟨gr, 0, none⟩ = false := h.fly.blk.frozen 0
  have HS := Lib.hid (TickR.start (now' := now + 1) h)
  clear h
  go_enter Try.func10, Try.ntmps10
  go_wp2_with fail
  go_loopg [3] L.length (fun gg out wr => ∃ O L' v', L'.length = gg ∧ L'.length ≤ L.length ∧ TickR B gr (now + 1) put v L w O L' v' out wr)
  case atStart => exact ⟨[], L, v, rfl, Nat.le_refl _, HS.out⟩
  case round =>
    obtain ⟨O, L', v', hgg, hle, hT⟩ := hrel
    obtain ⟨out, rfl⟩ : ∃ o : Value, o = u3 := ⟨_, rfl⟩
    have cB : wr.cell? ⟨gr, 2, none⟩ = some v' := hT.road.fly.blk.cell 2
    have cN : wr.cell? ⟨gr, 0, none⟩ = some (.int .i64 (now + 1)) := hT.road.fly.blk.cell 0
    have lB := hT.road.lt
    cases L' with
    | nil =>
      obtain ⟨A, c, rfl, _, _⟩ := OwnR.form hT.road.fly.own
      have HX : Hid (∀ wx, Below wr.heap.size wr wx → ∀ e, e = .returned out → RTicked B gr (now + 1) put v L w e wx) := Lib.hid (fun wx hb e he => by
        obtain ⟨A1, c1, h1, _, _⟩ := OwnR.form hT.row
        subst h1
        exact ⟨O, [], _, A1, c1, he, hT.under hb, by simp⟩)
      clear hT hgg
      go_upto_region 5 with (fail)
      go_quiet (fail)
      go_wp2_with fail
      go_ret
      exact HX.out _ (below_drewN (Below.refl _ _) _) _ rfl
    | cons q L1 =>
      obtain ⟨g, c, hv⟩ := hT.road.fly.form (by simp)
      subst hv
      have cq : wr.cell? ⟨g, 0, none⟩ = some (.int .i64 q.1.due) := by
        have h5 := hT.road.fly.own
        exact OwnR.cell h5 0 _ (by simp [mcell])
      by_cases hd : q.1.due ≤ now + 1
      · have hP := fun W (hb : Below wr.heap.size wr W) => hpop_any B gr (.int .i64 (now + 1)) (.int .i64 put) _ L1.length (q :: L1) q W (hT.road.under hb).fly rfl (by simp at hle; omega) hT.road.heap rfl
        have HP := Lib.hid hP
        have HT := Lib.hid hT
        have HG := Lib.hid hgg
        have hlen : 0 < L1.length + 1 := by omega
        have hol : O.length ≤ L.length := by have := hT.perm.length_eq; simp at this; omega
        clear hP hT hgg
        go_upto_region 5 with (fail)
        go_quiet (fail)
        go_wp2_with (first
          | (go_at_call 27; refine (HP.out _ (below_drewN (Below.refl _ _) _)).mono ?_; rintro e w2 ⟨rfl, hpp⟩; obtain ⟨hro2, hz2⟩ := TickR.row2 (HT.out.under (below_drewN (Below.refl _ _) _)) hpp; have HRO2 := Lib.hid hro2; have HPP := Lib.hid hpp; clear hpp hro2; have hTA := assert_mail (mailV q) w2)
          | (at_builtin; refine wpList_append_cells _ rfl (.tmp 45) (.tmp 48) 28 32 3 40 rfl Try.underlying28 (by kernel_rfl) (by omega) (by omega) w.heap.size out O.length (O.flatMap gcell) (by rfl) (HRO2.out.under (below_alloc (below_alloc (Below.refl _ _) _) _)) (some ⟨w2.heap.size + 1, 0, none⟩) 1 1 (gcell q) (by rfl) (Blk.read (blk_new2 w2 _ _ _)) rfl (by intro u hu; simp [gcell] at hu; rcases hu with rfl | rfl | rfl <;> rfl) (O.length + 1) rfl _ rfl (by omega) (by simp; omega) ?_; intro A6 c6 w6 hap))
        obtain ⟨v2, L2, hl2, hT2⟩ := HT.out.under (below_drewN (Below.refl _ _) nq) |>.next rfl rfl hd HPP.out (below_alloc (below_alloc (Below.refl _ _) _) _) hap
        have hg2 : L2.length < gk := by have := HG.out; simp at this; omega
        have hle2 : L2.length ≤ L.length := by simp at hle; omega
        have HT2 := Lib.hid hT2
        clear hT2 hap hl2
        go_roundg L2.length
        case measure => exact hg2
        case rel => exact ⟨O ++ [q], L2, v2, rfl, hle2, HT2.out⟩
      · have HX : Hid (∀ wx, Below wr.heap.size wr wx → ∀ e, e = .returned out → RTicked B gr (now + 1) put v L w e wx) := Lib.hid (fun wx hb e he => by
          obtain ⟨A1, c1, h1, _, _⟩ := OwnR.form hT.row
          subst h1
          refine ⟨O, q :: L1, _, A1, c1, he, hT.under hb, fun b hb => ?_⟩
          have := head_min hT.road.heap rfl b hb
          rw [nahead_iff] at this
          omega)
        clear hT hgg
        have hlen : 0 < L1.length + 1 := by omega
        go_upto_region 5 with (fail)
        go_quiet (fail)
        go_wp2_with fail
        go_ret
        exact HX.out _ (below_drewN (Below.refl _ _) _) _ rfl
end Go.Proofs.Ytkodmoeohffjhaa
