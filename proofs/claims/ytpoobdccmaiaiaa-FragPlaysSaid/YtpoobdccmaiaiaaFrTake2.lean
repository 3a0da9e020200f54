/- The walk of the joiner's Take: what is taken. -/
import Derived.Test.YtpoobdccmaiaiaaFrTake
import Derived.Deep.RegionHeld3
import Derived.Deep.CutBlock
namespace Go.Proofs.Ytpoobdccmaiaiaa
open Go.RowKit
open Frag
set_option linter.unusedVariables false
set_option linter.unusedSimpArgs false

/-- The state ahead of the part that is put in. -/
def Goes (s s1 : JS) (p : PV) : Prop := ((s.any = false ∨ s.id < p.id) ∧ s1 = JS.fresh p) ∨ (s.any = true ∧ p.id = s.id ∧ p.ct = s.ct ∧ s1 = s)
def TakeMid (E : List (Int × Value × List Int)) (w : World) (B gj mb : Nat) (s1 : JS) (p : PV) (A : Option Addr) (n c : Nat) (wx : World) : Prop :=
  ∃ E1, Jn wx B gj mb s1 E1 ∧ Blk wx w.heap.size 34 (partC p A n c) ∧ Keeps (fun i => i = gj ∨ i = mb) w wx ∧ ∀ x ∈ E1, x ∈ E

theorem fresh_mid (p : PV) (A : Option Addr) (n c : Nat) (w w2 w5 : World) (B gj mb : Nat) (s : JS) (E : List (Int × Value × List Int)) (hJ : Jn w B gj mb s E) (hB : Below w.heap.size w w2) (hK : Keeps (fun i => i = gj ∨ i = mb) w2 w5)
    (hb : Blk w5 gj 51 #[.bool s.any, .bool s.done, .int .u32 s.id, .int .i64 s.ct, .map (some mb)]) (hM : MapS w5 mb .i64 []) (hP : Blk w5 w.heap.size 34 (partC p A n c)) :
    TakeMid E w B gj mb (JS.fresh p) p A n c ((((w5.setCell ⟨gj, 0, none⟩ (.bool true)).setCell ⟨gj, 1, none⟩ (.bool false)).setCell ⟨gj, 2, none⟩ (.int .u32 p.id)).setCell ⟨gj, 3, none⟩ (.int .i64 p.ct)).drew := by
  have k0 : Keeps (fun i => i = gj ∨ i = mb) w w5 := (Keeps.under hB _).trans hK (fun g h _ => h)
  have hlt := hJ.lt
  have hsz := hJ.size
  have hne : mb ≠ gj := fun e => hlt.2.2 e.symm
  have hx : w.heap.size ≠ gj := by omega
  have b1 := Blk.s5_3 (Blk.s5_2 (Blk.s5_1 (Blk.s5_0 hb (.bool true)) (.bool false)) (.int .u32 p.id)) (.int .i64 p.ct)
  have m1 := (((hM.set_ (p := ⟨gj, 0, none⟩) hne (.bool true)).set_ (p := ⟨gj, 1, none⟩) hne (.bool false)).set_ (p := ⟨gj, 2, none⟩) hne (.int .u32 p.id)).set_ (p := ⟨gj, 3, none⟩) hne (.int .i64 p.ct)
  have p1 := (((hP.far (p := ⟨gj, 0, none⟩) hx (.bool true)).far (p := ⟨gj, 1, none⟩) hx (.bool false)).far (p := ⟨gj, 2, none⟩) hx (.int .u32 p.id)).far (p := ⟨gj, 3, none⟩) hx (.int .i64 p.ct)
  have k1 := (((k0.setCell (p := ⟨gj, 0, none⟩) (.inl (.inl rfl)) (.bool true)).setCell (p := ⟨gj, 1, none⟩) (.inl (.inl rfl)) (.bool false)).setCell (p := ⟨gj, 2, none⟩) (.inl (.inl rfl)) (.int .u32 p.id)).setCell (p := ⟨gj, 3, none⟩) (.inl (.inl rfl)) (.int .i64 p.ct)
  refine ⟨[], ⟨b1.drew, m1.drew, rfl, (fun _ h => by cases h), hlt, ?_⟩, p1.drew, k1.drew, fun _ h => by cases h⟩
  exact Nat.le_trans hsz k1.drew.size

set_option maxRecDepth 100000 in
set_option maxHeartbeats 2000000 in
theorem take_go (p : PV) (A : Option Addr) (n c : Nat) (w : World) (B gj mb : Nat) (s s1 : JS) (E : List (Int × Value × List Int)) (hJ : Jn w B gj mb s E) (hn : n = p.bs.length) (hl : n ≤ 9223372036854775807) (hm : mayP p = true) (hg : Goes s s1 p) (hok : JOk s1) (hr : ReadI w .u8 A p.bs) :
    Calls Try.prog 14 #[.pointer (some ⟨gj, 0, none⟩), partV p A n c] w (TakeEnd2 w B gj mb E (s1.tail p)) := by
  have HJ := Lib.hid hJ
  have HN := Lib.hid hn
  have HM := Lib.hid hm
  have HG := Lib.hid hg
  have HR := Lib.hid hr
  clear hJ hn hm hg hr
  go_enter Try.func14, Try.ntmps14
  go_upto_block 0 with (fail)
  go_cut [11] from 12 to 75 (fun s11 wx => TakeMid E w B gj mb s1 p A n c wx)
  case first =>
    go_wp2_with fail
    refine (may_dec p A n c _ HN.out hl true HM.out).mono ?_
    rintro e w2 ⟨rfl, hb2⟩
    have hb : Below w.heap.size w w2 := (below_alloc (Below.refl _ _) _).trans (hb2.mono (by simp))
    have hP : Blk w2 w.heap.size 34 (partC p A n c) := (Blk.new w _ _).under hb2
    have hJ2 := HJ.out.under hb
    have HJ2 := Lib.hid hJ2
    have HP := Lib.hid hP
    have p0 : w2.cell? ⟨w.heap.size, 0, none⟩ = some (.int .u32 p.id) := hP.cell 0
    have p2 : w2.cell? ⟨w.heap.size, 2, none⟩ = some (.int .i64 p.ct) := hP.cell 2
    have c0 : w2.cell? ⟨gj, 0, none⟩ = some (.bool s.any) := hJ2.blk.cell 0
    have c2 : w2.cell? ⟨gj, 2, none⟩ = some (.int .u32 s.id) := hJ2.blk.cell 2
    have c3 : w2.cell? ⟨gj, 3, none⟩ = some (.int .i64 s.ct) := hJ2.blk.cell 3
    have c4 : w2.cell? ⟨gj, 4, none⟩ = some (.map (some mb)) := hJ2.blk.cell 4
    have HB := Lib.hid hb
    clear hb2 hb hP hJ2
    rcases HG.out with ⟨h1, h2⟩ | ⟨h1, h2, h3, h4⟩
    · have H2 := Lib.hid h2
      have hany : (s.any = false) ∨ (s.any = true ∧ s.id < p.id) := by
        rcases h1 with h | h
        · exact .inl h
        · cases s.any
          · exact .inl rfl
          · exact .inr ⟨rfl, h⟩
      clear h1 h2
      rcases hany with h1 | ⟨h1, h3⟩
      all_goals
        rw [h1] at c0
        have H1 := Lib.hid h1
        clear h1
        have e0 : decide (s.id < p.id) = true ∨ s.any = false := by first | exact .inl (decide_eq_true h3) | exact .inr H1.out
        have e1 : decide (p.id < s.id) = false ∨ s.any = false := by first | exact .inl (decide_eq_false (by omega)) | exact .inr H1.out
        try rw [H1.out] at e0
        try rw [H1.out] at e1
        try replace e0 := e0.resolve_right (by decide)
        try replace e1 := e1.resolve_right (by decide)
        try clear h3
        go_wp2_with fail
        go_quiet (fail)
        go_wp2_with fail
        go_quiet (fail)
        go_wp2_with (refine wpList_clear_map _ rfl (.tmp 51) 49 3 23 rfl Try.underlying49 mb .i64 (slots E) rfl (HJ2.out.under (by repeat first | exact Below.refl _ _ | refine below_drewN ?_ _)).map ?_; intro w5 hM5 hg5)
        have hne := HJ2.out.lt
        have k5 : Keeps (fun i => i = gj ∨ i = mb) w2 w5 := Keeps.trans (by repeat first | exact Keeps.refl _ _ | refine Keeps.drewN ?_ _) (Keeps.grown hg5 (S := fun i => i = gj ∨ i = mb) (fun g h => .inr (by injection h with h; exact h.symm))) (fun g h _ => h)
        have hgr : Keeps (fun i => i = mb) w2 w5 := Keeps.trans (by repeat first | exact Keeps.refl _ _ | refine Keeps.drewN ?_ _) (Keeps.grown hg5 (S := fun i => i = mb) (fun g h => (by injection h with h; exact h.symm))) (fun g h _ => h)
        have hb5 : Blk w5 gj 51 _ := hgr.blk HJ2.out.blk hne.2.2
        have hP5 := hgr.blk HP.out (by have := HJ.out.size; omega)
        have p0' : w5.cell? ⟨w.heap.size, 0, none⟩ = some (.int .u32 p.id) := hP5.cell 0
        have p2' : w5.cell? ⟨w.heap.size, 2, none⟩ = some (.int .i64 p.ct) := hP5.cell 2
        have q0 : w5.cell? ⟨gj, 0, none⟩ = some (.bool s.any) := hb5.cell 0
        have q1 : w5.cell? ⟨gj, 1, none⟩ = some (.bool s.done) := hb5.cell 1
        have q2 : w5.cell? ⟨gj, 2, none⟩ = some (.int .u32 s.id) := hb5.cell 2
        have q3 : w5.cell? ⟨gj, 3, none⟩ = some (.int .i64 s.ct) := hb5.cell 3
        have f0 : ∀ i, w5.frozen? ⟨gj, i, none⟩ = false := fun i => hb5.frozen i
        have g0 := f0 0
        have g1 := f0 1
        have g2 := f0 2
        have g3 := f0 3
        have HM5 := Lib.hid hM5
        have HK5 := Lib.hid k5
        have HB5 := Lib.hid hb5
        have HP5 := Lib.hid hP5
        have hx : w.heap.size ≠ gj := by have := HJ.out.size; omega
        have hx' := hx.symm
        clear hM5 hg5 k5 hgr hb5 hP5 f0 c0 c2 c3 c4 p0 p2 hne
        go_wp2_with fail
        go_region_held3 (fun w' => w'.cell? ⟨w.heap.size, 0, none⟩ = some (.int .u32 p.id) ∧ w'.cell? ⟨w.heap.size, 2, none⟩ = some (.int .i64 p.ct)) (go_keep) (fail)
        go_wp2_with fail
        go_meet
        case rel =>
          rw [H2.out]
          exact fresh_mid p A n c w w2 w5 B gj mb s E HJ.out HB.out HK5.out HB5.out HM5.out HP5.out
    · rw [h1] at c0
      rw [← h2] at c2
      rw [← h3] at c3
      have d0 : decide (p.id < p.id) = false := decide_eq_false (by omega)
      have d1 : (p.ct != p.ct) = false := by simp
      have H4 := Lib.hid h4
      clear h1 h2 h3 h4
      go_wp2_with fail
      go_quiet (fail)
      go_wp2_with fail
      go_quiet (fail)
      go_wp2_with fail
      go_quiet (fail)
      go_wp2_with fail
      go_meet
      case rel => 
        rw [H4.out]
        exact ⟨E, HJ2.out.under (by repeat first | exact Below.refl _ _ | refine below_drewN ?_ _), HP.out, by repeat first | exact Keeps.under HB.out _ | refine Keeps.drewN ?_ _, fun _ h => h⟩
  case rest =>
    obtain ⟨E1, hJ1, hP1, hK1, hsub⟩ := hcut
    have HSUB := Lib.hid hsub
    clear hsub
    have HJ1 := Lib.hid hJ1
    have HP1 := Lib.hid hP1
    have HK1 := Lib.hid hK1
    have hx : w.heap.size ≠ gj := by have := HJ.out.size; have := HJ.out.lt; omega
    have hx' := hx.symm
    have p1 : wc.cell? ⟨w.heap.size, 1, none⟩ = some (.int .i64 p.ix) := hP1.cell 1
    have p3 : wc.cell? ⟨w.heap.size, 3, none⟩ = some (.slice A n c) := hP1.cell 3
    have c1 : wc.cell? ⟨gj, 1, none⟩ = some (.bool s1.done) := hJ1.blk.cell 1
    have c3 : wc.cell? ⟨gj, 3, none⟩ = some (.int .i64 s1.ct) := hJ1.blk.cell 3
    have c4 : wc.cell? ⟨gj, 4, none⟩ = some (.map (some mb)) := hJ1.blk.cell 4
    obtain ⟨v, hv⟩ : ∃ v, v = (lk (slots E1) p.ix).getD (.slice none 0 0) := ⟨_, rfl⟩
    have hlook : ∀ m, (Instr.lookup 49 (.map (some mb)) (.int .i64 p.ix) true).run Try.prog (wc.drewN m) = .ok (.tuple #[v, .bool (hasIx s1.es p.ix)]) (wc.drewN m) := fun m => by
      have := (hJ1.map.drewN m).look (P := Try.prog) (t := 49) (kt := 3) (et := 23) Try.underlying49 Try.underlying3 (z := .slice none 0 0) (by kernel_rfl) p.ix true
      rw [lk_isSome, ← hJ1.es, ← hv] at this
      exact this
    have HV := Lib.hid hv
    clear hv hJ1 hP1 hK1
    by_cases hend : (hasIx s1.es p.ix || s1.done) = true
    · have ht : s1.tail p = (⟨[], false, 16⟩, s1) := by unfold JS.tail; rw [if_pos hend]
      have HT := Lib.hid ht
      have hpar : (hasIx s1.es p.ix = true) ∨ (hasIx s1.es p.ix = false ∧ s1.done = true) := by
        cases hh : hasIx s1.es p.ix
        · rw [hh] at hend; exact .inr ⟨rfl, by simpa using hend⟩
        · exact .inl rfl
      have HEND := Lib.hid hend
      clear hend ht
      rcases hpar with h1 | ⟨h1, h2⟩
      · rw [h1] at hlook
        have H1 := Lib.hid h1
        clear h1
        go_wp2_with fail
        go_quiet (fail)
        go_wp2_with fail
        go_ret3
        rw [HT.out]
        exact ⟨none, 0, E1, rfl, OwnI.nil _ _ _ _, HJ1.out.under (by repeat first | exact Below.refl _ _ | refine below_drewN ?_ _), by repeat first | exact HK1.out | refine Keeps.drewN ?_ _, fun x h => .inl (HSUB.out x h)⟩
      · rw [h1] at hlook
        rw [h2] at c1
        have H1 := Lib.hid h1
        have H2 := Lib.hid h2
        clear h1 h2
        go_wp2_with fail
        go_quiet (fail)
        go_wp2_with fail
        go_ret3
        rw [HT.out]
        exact ⟨none, 0, E1, rfl, OwnI.nil _ _ _ _, HJ1.out.under (by repeat first | exact Below.refl _ _ | refine below_drewN ?_ _), by repeat first | exact HK1.out | refine Keeps.drewN ?_ _, fun x h => .inl (HSUB.out x h)⟩
    · have h1 : hasIx s1.es p.ix = false := by cases hh : hasIx s1.es p.ix <;> simp_all
      have h2 : s1.done = false := by cases hh : s1.done <;> simp_all
      have hnew : lk (slots E1) p.ix = none := by
        have := lk_isSome E1 p.ix
        rw [← HJ1.out.es, h1] at this
        simpa using this
      have HNEW := Lib.hid hnew
      have hp3 := (mayP_iff p).1 HM.out
      have hR : ReadI wc .u8 A p.bs := HJ.out.readI HR.out HK1.out
      rw [h1] at hlook
      rw [h2] at c1
      have H1 := Lib.hid h1
      have H2 := Lib.hid h2
      have HEND := Lib.hid hend
      have HRR := Lib.hid hR
      clear h1 h2 hnew hend hR
      go_wp2_with fail
      go_quiet (fail)
      go_wp2_with fail
      have hsz : B ≤ wc.heap.size := HJ1.out.size
      have hsz0 : B ≤ w.heap.size := HJ.out.size
      have hlt := HJ1.out.lt
      have hwx : w.heap.size < wc.heap.size := HP1.out.lt
      go_region_held3 (fun w' => w'.cell? ⟨w.heap.size, 1, none⟩ = some (.int .i64 p.ix) ∧ w'.cell? ⟨w.heap.size, 3, none⟩ = some (.slice A n c) ∧ w'.cell? ⟨gj, 4, none⟩ = some (.map (some mb)))
        (first | go_keep | exact ⟨q1, q3, q4⟩ | exact ⟨r1, r3, r4⟩)
        (first
          | (refine step_append_to _ rfl (.const (.slice none 0 0)) (.tmp 100) 23 5 .u8 1 (by rfl) Try.underlying23 (by kernel_rfl) (by omega) B (.slice none 0 0) [] (by rfl) (OwnI.nil _ _ _ _) A c n p.bs (by rfl) (show ReadI _ _ _ _ from HRR.out) HN.out n p.bs rfl (by have := HN.out; simpa using this) (by have := HN.out; omega) (by simp; omega) ?_; intro A2 c2 w3 hap; have HAP := Lib.hid hap; have hb3 : Below wc.heap.size wc w3 := below_of_only (B := wc.heap.size) (b := _) (by repeat first | exact Below.refl _ _ | refine below_drewN ?_ _ | refine below_drew ?_) hap.only (by simp) (fun x hx => by cases hx); have HB3 := Lib.hid hb3; have q1 := (hb3.cell (p := ⟨w.heap.size, 1, none⟩) hwx).trans p1; have q3 := (hb3.cell (p := ⟨w.heap.size, 3, none⟩) hwx).trans p3; have q4 := (hb3.cell (p := ⟨gj, 4, none⟩) (by simp; omega)).trans c4; obtain ⟨w4, hrun4, hM4, hg4⟩ := (HJ1.out.map.under hb3).store (P := Try.prog) (t := 49) (kt := 3) (et := 23) Try.underlying49 Try.underlying3 p.ix HNEW.out (.slice A2 n c2); have kp4 := Keeps.grown hg4 (S := fun i => i = mb) (fun g h => by injection h with h; exact h.symm); have hz3 := hb3.size; have r1 := (kp4.cell ⟨w.heap.size, 1, none⟩ (by simp; omega) (by simp; omega)).trans q1; have r3 := (kp4.cell ⟨w.heap.size, 3, none⟩ (by simp; omega) (by simp; omega)).trans q3; have r4 := (kp4.cell ⟨gj, 4, none⟩ (by simp; omega) (by simp; omega)).trans q4; have HM4 := Lib.hid hM4; have HG4 := Lib.hid hg4; clear hap hb3 hM4 hg4 kp4))
      have hJ4 := HJ1.out.put HB3.out HAP.out.own HM4.out HG4.out
      have hK4 : Keeps (fun i => i = gj ∨ i = mb) w w4 := (HK1.out.trans (Keeps.under HB3.out (fun _ => False)) (fun _ h => h.elim)).trans (Keeps.grown HG4.out (S := fun i => i = mb) (fun g h => by injection h with h; exact h.symm)) (fun _ h _ => .inr h)
      have hlen : ∀ m, (Builtin.len_ #[49] 3 #[.map (some mb)]).run Try.prog (w4.drewN m) = .ok (.int .i64 ((E1.length : Int) + 1)) (w4.drewN m) := fun m => by
        have := (HM4.out.drewN m).len (P := Try.prog) (t := 49) (kt := 3) (et := 23) Try.underlying49 3
        rw [this]
        simp [slots]
      have j3 : w4.cell? ⟨gj, 3, none⟩ = some (.int .i64 s1.ct) := hJ4.blk.cell 3
      have HJ4 := Lib.hid hJ4
      have HK4 := Lib.hid hK4
      have hesl : s1.es.length = E1.length := by rw [HJ1.out.es]; simp [bytesOf]
      have HESL := Lib.hid hesl
      clear hJ4 hK4 q1 q3 q4 r1 r3 p1 p3 c1 c3 hlook hrun4 hesl
      have hctp : s1.ct = p.ct := by
        rcases HG.out with ⟨_, h⟩ | ⟨_, _, h, h'⟩
        · rw [h]; rfl
        · rw [h', h]
      have hct : 1 ≤ s1.ct ∧ s1.ct ≤ 128 := by omega
      have hne4 : ∀ x ∈ E1 ++ [(p.ix, Value.slice A2 n c2, p.bs)], x ∈ E ∨ ∀ g, x.2.1.ownBlock = some g → w.heap.size ≤ g := fun x hx => by
        rcases List.mem_append.1 hx with h | h
        · exact .inl (HSUB.out x h)
        · rw [List.mem_singleton.1 h]
          refine .inr (fun g hg => ?_)
          rcases HAP.out.where_ with e | e
          · rw [hg] at e; cases e
          · rw [hg] at e
            injection e with e
            simp at e
            omega
      have HNE := Lib.hid hne4
      clear hne4
      clear hctp
      by_cases hltc : (E1.length : Int) + 1 < s1.ct
      · have hT : s1.tail p = (⟨[], false, 0⟩, { s1 with es := s1.es ++ [(p.ix, p.bs)] }) := by
          unfold JS.tail
          rw [if_neg HEND.out, if_pos (by rw [HESL.out]; exact decide_eq_true hltc)]
        have HT := Lib.hid hT
        have dl : decide ((E1.length : Int) + 1 < s1.ct) = true := decide_eq_true hltc
        clear hT hltc
        go_wp2_with fail
        go_quiet (fail)
        go_wp2_with fail
        go_ret3
        rw [HT.out]
        exact ⟨none, 0, _, rfl, OwnI.nil _ _ _ _, HJ4.out.drewN _, HK4.out.drewN _, HNE.out⟩
      · have hT : s1.tail p = (⟨full (s1.es ++ [(p.ix, p.bs)]) s1.ct.toNat, true, 0⟩, { s1 with es := [], done := true }) := by
          unfold JS.tail
          rw [if_neg HEND.out, if_neg (by rw [HESL.out]; simpa using hltc)]
        have HT := Lib.hid hT
        have dl : decide ((E1.length : Int) + 1 < s1.ct) = false := decide_eq_false hltc
        obtain ⟨m, hm⟩ : ∃ m : Nat, s1.ct = (m : Int) := ⟨s1.ct.toNat, by omega⟩
        have hsmall : ∀ k, (lkB (s1.es ++ [(p.ix, p.bs)]) k).length ≤ 448 := fun k => lkB_len _ (fun e he => by
          rcases List.mem_append.1 he with he | he
          · exact hok.small e he
          · rw [List.mem_singleton.1 he]; exact hp3.2.2.2.2.1) k
        have hfull : ∀ k, (full (s1.es ++ [(p.ix, p.bs)]) k).length ≤ 448 * k := full_len _ (fun e he => by
          rcases List.mem_append.1 he with he | he
          · exact hok.small e he
          · rw [List.mem_singleton.1 he]; exact hp3.2.2.2.2.1)
        have HSM := Lib.hid hsmall
        have HFL := Lib.hid hfull
        have HMM := Lib.hid hm
        rw [hm] at j3 dl hct
        clear hT hltc hsmall hfull hm
        go_wp2_with fail
        go_quiet (fail)
        go_wp2_with fail
        have hsz4 : w.heap.size ≤ w4.heap.size := HK4.out.size
        go_loopw [9, 116] (fun o i wr => ∃ (k : Nat) (A' : Option Addr) (c' : Nat), k ≤ m ∧ i = .int .i64 k ∧ o = .slice A' (full (s1.es ++ [(p.ix, p.bs)]) k).length c' ∧ OwnI wr w4.heap.size 5 .u8 (.slice A' (full (s1.es ++ [(p.ix, p.bs)]) k).length c') (full (s1.es ++ [(p.ix, p.bs)]) k) ∧ Below w4.heap.size w4 wr) (fun _ i _ => m - (intOf i).toNat)
        case atStart => exact ⟨0, none, 0, Nat.zero_le _, rfl, rfl, OwnI.nil _ _ _ _, below_drewN (Below.refl _ _) _⟩
        case round =>
          obtain ⟨k, A3, c3, hk, rfl, rfl, ho, hb4⟩ := hrel
          have hJ5 := HJ4.out.under hb4
          by_cases hlt : k < m
          · have i1 : (k : Int) < (m : Int) := by omega
            obtain ⟨A5, c5, he5, ho5⟩ := hJ5.entry k
            have hf1 := HFL.out k
            have hf2 := HSM.out k
            have hf3 := full_succ (s1.es ++ [(p.ix, p.bs)]) k
            obtain ⟨xs, hxs⟩ : ∃ xs, xs = full (s1.es ++ [(p.ix, p.bs)]) k := ⟨_, rfl⟩
            obtain ⟨ys, hys⟩ : ∃ ys, ys = lkB (s1.es ++ [(p.ix, p.bs)]) k := ⟨_, rfl⟩
            rw [← hxs] at ho hf1 hf3 ⊢
            simp only [] at he5 ho5
            rw [← hys] at he5 ho5 hf2 hf3
            have hlook5 : (Instr.lookup 49 (.map (some mb)) (.int .i64 k) false).run Try.prog wr = .ok (.slice A5 ys.length c5) wr := by
              have := hJ5.map.look (P := Try.prog) (t := 49) (kt := 3) (et := 23) Try.underlying49 Try.underlying3 (z := .slice none 0 0) (by kernel_rfl) k false
              rw [he5] at this
              exact this
            have k4 : wr.cell? ⟨gj, 4, none⟩ = some (.map (some mb)) := hJ5.blk.cell 4
            have HF3 := Lib.hid hf3
            have HO5 := Lib.hid ho5
            have HHO := Lib.hid ho
            clear hf3 ho5 ho he5 hxs hys hJ5 c4 r4 j3 dl
            go_wp2_with (at_builtin; first
              | (refine wpList_append_to _ rfl (.tmp 119) (.tmp 125) 23 5 .u8 1 rfl Try.underlying23 (by kernel_rfl) (by omega) w4.heap.size (.slice A3 xs.length c3) xs rfl HHO.out A5 c5 ys.length ys rfl (OwnI.read HO5.out) rfl (xs.length + ys.length) (xs ++ ys) rfl rfl (by omega) hb4.size ?_; intro A6 c6 w6 hap6; have HAP6 := Lib.hid hap6; clear hap6))
            have hb6 := below_of_only hb4 HAP6.out.only hb4.size (fun x hx => (HHO.out.lt x hx).1)
            have HB6 := Lib.hid hb6
            clear hb6
            go_wp2_with fail
            go_roundw
            case rel => exact ⟨k + 1, A6, c6, by omega, by go_num, by rw [HF3.out, List.length_append], by rw [HF3.out, List.length_append]; exact HAP6.out.own, HB6.out⟩
            case measure => simp [intOf]; omega
          · obtain rfl : k = m := by omega
            have k4 : wr.cell? ⟨gj, 4, none⟩ = some (.map (some mb)) := hJ5.blk.cell 4
            have HJ5 := Lib.hid hJ5
            clear hJ5 c4 r4 j3 dl
            go_wp2_with (refine wpList_clear_map _ rfl (.tmp 131) 49 3 23 rfl Try.underlying49 mb .i64 _ rfl HJ5.out.map ?_; intro w7 hM7 hg7; have HM7 := Lib.hid hM7; have HG7 := Lib.hid hg7; have hb7 := (Keeps.grown hg7 (S := fun i => i = mb) (fun g h => by injection h with h; exact h.symm)).blk HJ5.out.blk HJ.out.lt.2.2; have b1 : w7.cell? ⟨gj, 1, none⟩ = some (.bool s1.done) := hb7.cell 1; have f1 : w7.frozen? ⟨gj, 1, none⟩ = false := hb7.frozen 1; clear hM7 hg7 hb7)
            go_ret3
            obtain ⟨hJ8, hK8⟩ := HJ5.out.emptied HM7.out HG7.out
            rw [HT.out, show s1.ct.toNat = k by rw [HMM.out]; rfl]
            have hS : ∀ g, (Value.slice A3 (full (s1.es ++ [(p.ix, p.bs)]) k).length c3).ownBlock = some g → ¬ (g = gj ∨ g = mb) := fun g hg => by
              have := (ho.lt g hg).1
              omega
            exact ⟨A3, c3, [], rfl, (hK8.own ho hS).mono hsz4, hJ8, (HK4.out.trans (Keeps.under hb4 (fun _ => False)) (fun _ h => h.elim)).trans hK8 (fun _ h _ => h), fun _ h => by cases h⟩

/-- Take, of any part, in any state. -/
theorem take_any2 (p : PV) (A : Option Addr) (n c : Nat) (w : World) (B gj mb : Nat) (s : JS) (E : List (Int × Value × List Int)) (hJ : Jn w B gj mb s E) (hok : JOk s) (hn : n = p.bs.length) (hl : n ≤ 9223372036854775807) (hr : ReadI w .u8 A p.bs) :
    Calls Try.prog 14 #[.pointer (some ⟨gj, 0, none⟩), partV p A n c] w (TakeEnd2 w B gj mb E (s.take p)) := by
  unfold JS.take
  cases hm : mayP p
  · exact take_not p A n c w B gj mb s E hJ hn hl hm
  · simp only [Bool.true_eq_false, if_false]
    by_cases h1 : (s.any && decide (p.id < s.id)) = true
    · rw [if_pos h1]
      simp at h1
      exact take_old p A n c w B gj mb s E hJ hn hl hm h1.1 h1.2
    · rw [if_neg h1]
      by_cases h2 : (!s.any || decide (s.id < p.id)) = true
      · rw [if_pos h2]
        simp at h2
        exact take_go p A n c w B gj mb s (JS.fresh p) E hJ hn hl hm (.inl ⟨h2, rfl⟩) (JOk.freshOk p hm) hr
      · rw [if_neg h2]
        simp at h1 h2
        have hid : p.id = s.id := by have := h1 h2.1; omega
        by_cases h3 : (p.ct != s.ct) = true
        · rw [if_pos h3]
          exact take_form p A n c w B gj mb s E hJ hn hl hm h2.1 hid (by simpa using h3)
        · rw [if_neg h3]
          exact take_go p A n c w B gj mb s s E hJ hn hl hm (.inr ⟨h2.1, hid, by simpa using h3, rfl⟩) hok hr
theorem take_any (p : PV) (A : Option Addr) (n c : Nat) (w : World) (B gj mb : Nat) (s : JS) (E : List (Int × Value × List Int)) (hJ : Jn w B gj mb s E) (hok : JOk s) (hn : n = p.bs.length) (hl : n ≤ 9223372036854775807) (hr : ReadI w .u8 A p.bs) :
    Calls Try.prog 14 #[.pointer (some ⟨gj, 0, none⟩), partV p A n c] w (TakeEnd w B gj mb (s.take p)) :=
  (take_any2 p A n c w B gj mb s E hJ hok hn hl hr).mono fun e w' ⟨A', c', E', h1, h2, h3, h4, _⟩ => ⟨A', c', E', h1, h2, h3, h4⟩
end Go.Proofs.Ytpoobdccmaiaiaa
