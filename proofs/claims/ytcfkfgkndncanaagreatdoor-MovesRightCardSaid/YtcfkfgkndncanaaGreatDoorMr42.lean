/- Texts of this claim, merged by a program of this claim: FApply5. -/
import Derived.Test.YtcfkfgkndncanaaGreatDoorMr30
import Derived.Test.YtcfkfgkndncanaaGreatDoorMr40
import Derived.Test.YtcfkfgkndncanaaGreatDoorMr41
namespace Go.Proofs.YtcfkfgkndncanaaGreatDoor
set_option linter.unusedVariables false
set_option linter.unusedSimpArgs false
section
open Go.RowKit
set_option maxRecDepth 100000
set_option maxHeartbeats 4000000
theorem jeV {k r : Int} {L : List CD} {x y mo : Int} {ti : ByteArray} {l : List ByteArray} (h : jbl k r L x y mo ti l = true) : jbm k r L = true := by
  unfold jbl at h
  simp only [HB, ne_eq, reduceCtorEq] at h
  exact h.1.1.1.1.1.1.1.1
abbrev zeroS : List CV := [.int .i64 0, .int .i64 0, .nils, .int .i64 0, .int .i64 0, .bool false, .int .u8 0, .str (bs []), .nils]
theorem clo_no (x y : CV) (h : KH) : Clo Tryz.prog E0 jdV [x, y] .niliface h h := by
  refine Clo.intro (V := VV [] GOk.nil 17 h.length) k_moves_Apply_1 rfl rfl ?_
  repeat' first | simp only [PB, SB, E, seval, rdB, ne_eq, implies_true, tq0, tq1, tq2] | refine T.seq ?_ | refine T.stm ?_ | refine T.rg ?_ | refine jac ?_ | refine jad ?_ | refine jae ?_ | refine T.cond ?_ | refine T.skip ?_ | refine T.ret ?_ | refine T.exit ?_ | refine T.block ?_ | refine And.intro ?_ ?_ | (intro hyp0; have hyp := hyp0; (try simp only [HB, ne_eq, reduceCtorEq] at hyp); (try simp only [hyp0]); (try clear hyp0); try (exfalso; omega; done)) | omega
theorem clo_err (A : KB) (c : CV) (rest : KH) (no : Int) : Clo Tryz.prog E0 jdV [.ptr 1 0 0, .ptr 2 0 0] (errV no) (A :: .box zeroS :: .box [c] :: rest) (A :: .box zeroS :: .box [.int .i64 no] :: rest) := by
  refine Clo.intro (V := VV [] GOk.nil 17 (A :: .box zeroS :: .box [c] :: rest).length) k_moves_Apply_1 rfl rfl ?_
  repeat' first | simp only [PB, SB, E, seval, rdB, ne_eq, implies_true, tq0, tq1, tq2] | refine T.seq ?_ | refine T.stm ?_ | refine T.rg ?_ | refine jac ?_ | refine jad ?_ | refine jae ?_ | refine T.cond ?_ | refine T.skip ?_ | refine T.ret ?_ | refine T.exit ?_ | refine T.block ?_ | refine And.intro ?_ ?_ | (intro hyp0; have hyp := hyp0; (try simp only [HB, ne_eq, reduceCtorEq] at hyp); (try simp only [hyp0]); (try clear hyp0); try (exfalso; omega; done)) | omega
theorem jhk {k r : Int} {L : List CD} {x y mo : Int} {ti : ByteArray} {l : List ByteArray} (h : jbl k r L x y mo ti l = true) : Szd k r L ∧ l.length ≤ 16 ∧ ∀ c ∈ L, c.link ≤ l.length := by
  have hg := jeV h
  obtain ⟨hk, hr, hl, _⟩ := jff hg
  unfold jbl at h
  simp only [Bool.and_eq_true, decide_eq_true_eq] at h
  obtain ⟨⟨⟨⟨⟨⟨⟨⟨h1, h2⟩, h3⟩, h4⟩, h5⟩, h6⟩, h7⟩, h8⟩, h9⟩ := h
  unfold jdE at h2
  simp only [Bool.and_eq_true, decide_eq_true_eq] at h2
  obtain ⟨K, rfl⟩ : ∃ n : Nat, k = n := ⟨k.toNat, by omega⟩
  obtain ⟨R, rfl⟩ : ∃ n : Nat, r = n := ⟨r.toNat, by omega⟩
  refine ⟨⟨hk, hr, ?_⟩, h2.1.1, fun t ht => jj9 h2.2 t ht⟩
  rw [← Int.natCast_mul] at hl
  simp only [Int.toNat_natCast]
  omega
theorem jjv {d : List Int} {s b : RS} {e : Int} (h1 : jbl s.k s.r s.L s.x s.y s.mo s.ti s.l = true) (h : goG d 9 0 { s with more := s.l, a := 0 } = (e, b)) (he : e ≠ 0) : apG d s = (e, zeroR) := by
  unfold apG
  rw [if_neg (by rw [h1]; decide), h, if_pos he]
theorem jm2 {d : List Int} {s b : RS} (h1 : jbl s.k s.r s.L s.x s.y s.mo s.ti s.l = true) (h : goG d 9 0 { s with more := s.l, a := 0 } = (0, b)) (h2 : jbl b.k b.r b.L b.x b.y b.mo b.ti b.more = false) : apG d s = (3, zeroR) := by
  unfold apG
  rw [if_neg (by rw [h1]; decide), h, if_neg (fun q => q rfl), if_pos h2]
theorem joO {d : List Int} {s b : RS} (h1 : jbl s.k s.r s.L s.x s.y s.mo s.ti s.l = true) (h : goG d 9 0 { s with more := s.l, a := 0 } = (0, b)) (h2 : jbl b.k b.r b.L b.x b.y b.mo b.ti b.more = true) : apG d s = (0, b) := by
  unfold apG
  rw [if_neg (by rw [h1]; decide), h, if_neg (fun q => q rfl), if_neg (by rw [h2]; decide)]
noncomputable def sp_apply : Spec := spOf (α := Int × Int × (List CD) × Int × Int × Bool × Int × ByteArray × (List ByteArray) × (List Int)) (fun ⟨k, r, L, x, y, hd, mo, ti, l, d⟩ => [.agg [.int .i64 k, .int .i64 r, .vec .cell L, .int .i64 x, .int .i64 y, .bool hd, .int .u8 mo, .str ti, .vec .str l], .vec (.int .u8) d]) fun ⟨k, r, L, x, y, hd, mo, ti, l, d⟩ => (ScrOk L l ∧ SLen ti ∧ (∀ c ∈ L, CWf c) ∧ d.length ≤ 1000000 ∧ Bts d, .ret (.tup [.agg [.int .i64 (apG d ⟨k, r, L, x, y, hd, mo, ti, l, [], 0⟩).2.k, .int .i64 (apG d ⟨k, r, L, x, y, hd, mo, ti, l, [], 0⟩).2.r, .vec .cell (apG d ⟨k, r, L, x, y, hd, mo, ti, l, [], 0⟩).2.L, .int .i64 (apG d ⟨k, r, L, x, y, hd, mo, ti, l, [], 0⟩).2.x, .int .i64 (apG d ⟨k, r, L, x, y, hd, mo, ti, l, [], 0⟩).2.y, .bool (apG d ⟨k, r, L, x, y, hd, mo, ti, l, [], 0⟩).2.hd, .int .u8 (apG d ⟨k, r, L, x, y, hd, mo, ti, l, [], 0⟩).2.mo, .str (apG d ⟨k, r, L, x, y, hd, mo, ti, l, [], 0⟩).2.ti, .vec .str (apG d ⟨k, r, L, x, y, hd, mo, ti, l, [], 0⟩).2.more], .int .i64 (apG d ⟨k, r, L, x, y, hd, mo, ti, l, [], 0⟩).1]))
theorem jgN (k : Int) (r : Int) (L : List CD) (x : Int) (y : Int) (hd : Bool) (mo : Int) (ti : ByteArray) (l : List ByteArray) (d : List Int) : sp_apply [.agg [.int .i64 k, .int .i64 r, .vec .cell L, .int .i64 x, .int .i64 y, .bool hd, .int .u8 mo, .str ti, .vec .str l], .vec (.int .u8) d] = some (ScrOk L l ∧ SLen ti ∧ (∀ c ∈ L, CWf c) ∧ d.length ≤ 1000000 ∧ Bts d, .ret (.tup [.agg [.int .i64 (apG d ⟨k, r, L, x, y, hd, mo, ti, l, [], 0⟩).2.k, .int .i64 (apG d ⟨k, r, L, x, y, hd, mo, ti, l, [], 0⟩).2.r, .vec .cell (apG d ⟨k, r, L, x, y, hd, mo, ti, l, [], 0⟩).2.L, .int .i64 (apG d ⟨k, r, L, x, y, hd, mo, ti, l, [], 0⟩).2.x, .int .i64 (apG d ⟨k, r, L, x, y, hd, mo, ti, l, [], 0⟩).2.y, .bool (apG d ⟨k, r, L, x, y, hd, mo, ti, l, [], 0⟩).2.hd, .int .u8 (apG d ⟨k, r, L, x, y, hd, mo, ti, l, [], 0⟩).2.mo, .str (apG d ⟨k, r, L, x, y, hd, mo, ti, l, [], 0⟩).2.ti, .vec .str (apG d ⟨k, r, L, x, y, hd, mo, ti, l, [], 0⟩).2.more], .int .i64 (apG d ⟨k, r, L, x, y, hd, mo, ti, l, [], 0⟩).1])) := jav (α := Int × Int × (List CD) × Int × Int × Bool × Int × ByteArray × (List ByteArray) × (List Int)) _ (fun ⟨k, r, L, x, y, hd, mo, ti, l, d⟩ ⟨k', r', L', x', y', hd', mo', ti', l', d'⟩ h => by first | simpa [CP] using h | (simp [CP] at h ⊢; grind)) (k, r, L, x, y, hd, mo, ti, l, d)
theorem jot : Alias Tryz.prog E0 11 sp_apply := Alias.of fun ⟨k, r, L, x, y, hd, mo, ti, l, d⟩ hG => TFD.intro (V := (VV [(22, conF [.agg [.any, .any, .sl .cell, .any, .any, .any, .any, .any, .sl .str]] sp_eright), (24, conT [.sl .cell] sp_clone), (25, conT [.sl .str] sp_sclone), (26, conM msp_wnew), (27, conM msp_wleft), (28, conM msp_wnum1), (29, conP jgL esp_thing)] (.cons (chkFn_callable k_emul_Right) (Fresh.soundF jmP) (.cons (chkFn_callable k_slices_Clone_Cell) (Fresh.soundT jeM) (.cons (chkFn_callable k_slices_Clone_string) (Fresh.soundT jiI) (.cons (chkFn_callable k_wire_New) (MutF.soundM jpx) (.cons (chkFn_callable k_wire_Reader_Left) (MutF.soundM jnP) (.cons (chkFn_callable k_wire_Reader_Num) (MutF.soundM jnQ) (.cons (chkFn_callable k_moves_reading_thing) (MutP.soundP jor) GOk.nil))))))) 72 0)) k_moves_Apply rfl rfl (by
  dsimp only at hG ⊢
  obtain ⟨hsc, hti, hwf, hdl, hb⟩ := hG
  have hw := And.intro hsc hti
  refine TD.pre rfl ?_
  repeat' first | simp only [PB, SB, E, MB, seval, rdB, ne_eq, implies_true, jaU, jah, jaA, ja4, jaS, jaT, jaV, jaW, tq0, tq1, tq2] | simp only [hw] | refine T.seq ?_ | refine T.stm ?_ | refine T.rg ?_ | refine jac ?_ | refine jad ?_ | refine jae ?_ | refine T.cond ?_ | refine T.skip ?_ | refine T.ret ?_ | refine T.exit ?_ | refine T.block ?_ | refine And.intro ?_ ?_ | (intro hyp0; have hyp := hyp0; (try simp only [HB, ne_eq, reduceCtorEq] at hyp); (try simp only [hyp0]); (try clear hyp0); try (exfalso; omega; done)) | omega
  refine TD.pre rfl ?_
  repeat' first | exact hsc | simp only [PB, SB, E, MB, seval, rdB, ne_eq, implies_true, jaU, jah, jaA, ja4, jaS, jaT, jaV, jaW, tq0, tq1, tq2] | simp only [hw] | refine T.seq ?_ | refine T.stm ?_ | refine T.rg ?_ | refine jac ?_ | refine jad ?_ | refine jae ?_ | refine T.cond ?_ | refine T.skip ?_ | refine T.ret ?_ | refine T.exit ?_ | refine T.block ?_ | refine And.intro ?_ ?_ | (intro hyp0; have hyp := hyp0; (try simp only [HB, ne_eq, reduceCtorEq] at hyp); (try simp only [hyp0]); (try clear hyp0); try (exfalso; omega; done)) | omega
  · have hW : apG d ⟨k, r, L, x, y, hd, mo, ti, l, [], 0⟩ = (1, zeroR) := if_pos hyp
    rw [hW]
    refine Cos.intro [] [0, 1, 2, 3, 4, 5, 6, 7, 8, 9] rfl ?_
    simp only [PB, SB, E, MB, seval, rdB, ne_eq, implies_true, jaU, jah, jaA, ja4, jaS, jaT, jaV, jaW, tq0, tq1, tq2]
    simp [zeroR, jdL]
  · obtain ⟨hk, hr, hl, hle⟩ := jff (jeV hyp)
    have hl7 : l.length ≤ 1000000 := by
      have := hsc.links
      omega
    have hl6 : L.length ≤ 1000000 := by omega
    refine TD.dfr [.ptr 1 0 0, .ptr 2 0 0] rfl rfl (fun h => clo_no _ _ h) (fun D => ?_)
    repeat' first | exact hl6 | exact hl7 | exact hdl | simp only [PB, SB, E, MB, seval, rdB, ne_eq, implies_true, jaU, jah, jaA, ja4, jaS, jaT, jaV, jaW, tq0, tq1, tq2] | simp only [hw] | refine T.seq ?_ | refine T.stm ?_ | refine T.rg ?_ | refine jac ?_ | refine jad ?_ | refine jae ?_ | refine T.cond ?_ | refine T.skip ?_ | refine T.ret ?_ | refine T.exit ?_ | refine T.block ?_ | refine And.intro ?_ ?_ | (intro hyp0; have hyp := hyp0; (try simp only [HB, ne_eq, reduceCtorEq] at hyp); (try simp only [hyp0]); (try clear hyp0); try (exfalso; omega; done)) | omega
    generalize hW : goG d 9 0 ⟨k, r, L, x, y, hd, mo, ti, l, l, 0⟩ = W
    refine T.loop (fun q : Nat × Int × RS => ⟨[(4, .ptr 1 0 0), (5, .ptr 2 0 0), (6, .ptr 3 0 0), (7, .int .i64 q.2.1)], [.dead, .box [.int .i64 0, .int .i64 0, .nils, .int .i64 0, .int .i64 0, .bool false, .int .u8 0, .str (bs []), .nils], .box [.int .i64 0], .box [.ptr 4 0 0, .int .i64 q.2.2.k, .int .i64 q.2.2.r, .slice 5 0 6 q.2.2.L.length q.2.2.L.length, .int .i64 q.2.2.x, .int .i64 q.2.2.y, .bool q.2.2.hd, .int .u8 q.2.2.mo, .str q.2.2.ti, .vec .str q.2.2.l, .vec .str q.2.2.more], rdr d q.2.2.a 0, .seq .cell q.2.2.L]⟩) (fun q => 8 - q.2.1 < q.1 ∧ (0 ≤ q.2.1 ∧ q.2.1 ≤ 8) ∧ Kept d q.2.1 q.2.2 ∧ goG d q.1 q.2.1 q.2.2 = W) (fun q => q.1) (9, 0, ⟨k, r, L, x, y, hd, mo, ti, l, l, 0⟩) ?_ (Cos.intro [0, 1, 2, 6, 5, 3] [4] rfl (by (simp only [PB, SB, E, MB, seval, rdB, ne_eq, implies_true, jaU, jah, jaA, ja4, jaS, jaT, jaV, jaW, tq0, tq1, tq2]; first | done | ((repeat' apply And.intro) <;> first | rfl | omega | (simp; done) | (simp; omega))))) (fun q hq => ?_)
    · obtain ⟨hz, h16, hlk⟩ := jhk hyp
      exact ⟨by dsimp only; omega, ⟨by dsimp only; omega, by dsimp only; omega⟩, ⟨⟨Nat.zero_le _, hdl, hb⟩, hz, h16, h16, hwf, fun _ => hlk, fun _ => jeV hyp, hsc.slen, hti, hsc.slen⟩, hW⟩
    · obtain ⟨f, last, s⟩ := q
      obtain ⟨hf, ⟨h0, h8⟩, hK, hg⟩ := hq
      dsimp only at hf h0 h8 hK hg
      cases f with
      | zero => omega
      | succ f =>
        simp only [goG] at hg
        have hrd := hK.rd
        by_cases ha : d.length ≤ s.a
        · rw [if_pos ha] at hg
          subst hg
          have hsk : ScrOk s.L s.more := ⟨hK.wf, by have := hK.sz.le; omega, by have := hK.nm; omega, hK.sl⟩
          by_cases hR : jbl s.k s.r s.L s.x s.y s.mo s.ti s.more = true
          · rw [joO (d := d) (s := ⟨k, r, L, x, y, hd, mo, ti, l, [], 0⟩) hyp hW hR]
            have hw := hR
            repeat' first | exact hrd.1 | exact hdl | exact hsk | exact hK.st | simp only [PB, SB, E, MB, seval, rdB, ne_eq, implies_true, jaU, jah, jaA, ja4, jaS, jaT, jaV, jaW, tq0, tq1, tq2] | simp only [hw] | refine T.seq ?_ | refine T.stm ?_ | refine T.rg ?_ | refine jac ?_ | refine jad ?_ | refine jae ?_ | refine T.cond ?_ | refine T.skip ?_ | refine T.ret ?_ | refine T.exit ?_ | refine T.block ?_ | refine Cos.intro [] [0, 1, 2, 3, 4, 5, 6, 7, 8, 9] rfl ?_ | refine And.intro ?_ ?_ | (intro hyp0; have hyp := hyp0; (try simp only [HB, ne_eq, reduceCtorEq] at hyp); (try simp only [hyp0]); (try clear hyp0); try (exfalso; omega; done)) | omega
          · have hR2 := Bool.eq_false_iff.2 hR
            rw [jm2 (d := d) (s := ⟨k, r, L, x, y, hd, mo, ti, l, [], 0⟩) hyp hW hR2]
            have hw := hR2
            repeat' first | exact hrd.1 | exact hdl | exact hsk | exact hK.st | simp only [PB, SB, E, MB, seval, rdB, ne_eq, implies_true, jaU, jah, jaA, ja4, jaS, jaT, jaV, jaW, tq0, tq1, tq2] | simp only [hw] | refine T.seq ?_ | refine T.stm ?_ | refine T.rg ?_ | refine jac ?_ | refine jad ?_ | refine jae ?_ | refine T.cond ?_ | refine T.skip ?_ | refine T.ret ?_ | refine T.exit ?_ | refine T.block ?_ | refine Cos.intro [] [0, 1, 2, 3, 4, 5, 6, 7, 8, 9] rfl ?_ | refine And.intro ?_ ?_ | (intro hyp0; have hyp := hyp0; (try simp only [HB, ne_eq, reduceCtorEq] at hyp); (try simp only [hyp0]); (try clear hyp0); try (exfalso; omega; done)) | omega
            all_goals (simp [zeroR, jdL])
        · rw [if_neg ha] at hg
          obtain ⟨kd, hkd⟩ : ∃ kd, d.getD s.a 0 = kd := ⟨_, rfl⟩
          rw [hkd] at hg
          have hln : s.a < d.length := by omega
          have hkb : 0 ≤ kd ∧ kd < 256 := by
            rw [← hkd]
            exact hrd.2.2 _ (jeG (d := 0) hln)
          by_cases h9 : kd ≤ last ∨ 8 < kd
          · rw [if_pos h9] at hg
            subst hg
            rw [jjv (d := d) (s := ⟨k, r, L, x, y, hd, mo, ti, l, [], 0⟩) hyp hW (by decide)]
            have hw := And.intro hkd (ji1 (n := kd) (by omega))
            repeat' first | exact hrd.1 | exact hdl | exact hln | exact hb | simp only [PB, SB, E, MB, seval, rdB, ne_eq, implies_true, jaU, jah, jaA, ja4, jaS, jaT, jaV, jaW, tq0, tq1, tq2] | simp only [hw] | refine T.seq ?_ | refine T.stm ?_ | refine T.rg ?_ | refine jac ?_ | refine jad ?_ | refine jae ?_ | refine T.cond ?_ | refine T.skip ?_ | refine T.ret ?_ | refine T.exit ?_ | refine T.block ?_ | refine And.intro ?_ ?_ | (intro hyp0; have hyp := hyp0; (try simp only [HB, ne_eq, reduceCtorEq] at hyp); (try simp only [hyp0]); (try clear hyp0); try (exfalso; omega; done)) | omega
            refine ⟨_, clo_err _ _ _ _, ?_⟩
            repeat' first | simp only [PB, SB, E, MB, seval, rdB, ne_eq, implies_true, jaU, jah, jaA, ja4, jaS, jaT, jaV, jaW, tq0, tq1, tq2] | simp only [hw] | refine T.seq ?_ | refine T.stm ?_ | refine T.rg ?_ | refine jac ?_ | refine jad ?_ | refine jae ?_ | refine T.cond ?_ | refine T.skip ?_ | refine T.ret ?_ | refine T.exit ?_ | refine T.block ?_ | refine Cos.intro [] [0, 1, 2, 3, 4, 5, 6, 7, 8, 9] rfl ?_ | refine And.intro ?_ ?_ | (intro hyp0; have hyp := hyp0; (try simp only [HB, ne_eq, reduceCtorEq] at hyp); (try simp only [hyp0]); (try clear hyp0); try (exfalso; omega; done)) | omega
            all_goals (simp [zeroR, jdL])
          · rw [if_neg h9] at hg
            have hK2 := hK.next hln
            obtain ⟨⟨k1, k2⟩, ⟨r1, r2⟩, hLl⟩ := hK.sz
            have hnl := hK.nl
            have hnm := hK.nm
            have hth : RdOk d (s.a + 1) ∧ Szd s.k s.r s.L ∧ (s.l.length ≤ 16 ∧ s.more.length ≤ 16) ∧ (∀ c ∈ s.L, CWf c) ∧ (kd ≤ 5 → ∀ c ∈ s.L, c.link ≤ s.l.length) ∧ (kd ≤ 6 → jbm s.k s.r s.L = true) ∧ (1 ≤ kd ∧ kd ≤ 8) := ⟨hK2.rd, hK.sz, ⟨hK.nl, hK.nm⟩, hK.wf, fun q => hK.lk (by omega), fun q => hK.gr (by omega), by omega, by omega⟩
            by_cases he : (thG d kd { s with a := s.a + 1 }).1 = 0
            · rw [if_neg (by rw [he]; decide)] at hg
              have hK3 := keepG hK2 (show last < kd by omega) (by omega) he
              have hw := And.intro hkd (And.intro (ji1 (n := kd) (by omega)) he)
              repeat' first | exact hrd.1 | exact hdl | exact hln | exact hb | exact hth.1 | exact hLl | exact hK.wf _ ‹_› | exact hth.2.2.2.2.1 (by assumption) _ ‹_› | exact hth.2.2.2.2.2.1 (by assumption) | simp only [PB, SB, E, MB, seval, rdB, ne_eq, implies_true, jaU, jah, jaA, ja4, jaS, jaT, jaV, jaW, tq0, tq1, tq2] | simp only [hw] | refine T.seq ?_ | refine T.stm ?_ | refine T.rg ?_ | refine jac ?_ | refine jad ?_ | refine jae ?_ | refine T.cond ?_ | refine T.skip ?_ | refine T.ret ?_ | refine T.exit ?_ | refine T.block ?_ | refine And.intro ?_ ?_ | (intro hyp0; have hyp := hyp0; (try simp only [HB, ne_eq, reduceCtorEq] at hyp); (try simp only [hyp0]); (try clear hyp0); try (exfalso; omega; done)) | omega
              exact ⟨(f, kd, (thG d kd { s with a := s.a + 1 }).2), ⟨by dsimp only; omega, ⟨by dsimp only; omega, by dsimp only; omega⟩, hK3, hg⟩, Nat.lt_succ_self _, Cos.intro [0, 1, 2, 3, 4, 6] [] rfl (by (simp only [PB, SB, E, MB, seval, rdB, ne_eq, implies_true, jaU, jah, jaA, ja4, jaS, jaT, jaV, jaW, tq0, tq1, tq2]; first | done | ((repeat' apply And.intro) <;> first | rfl | omega | (simp; done) | (simp; omega))))⟩
            · rw [if_pos he] at hg
              subst hg
              rw [jjv (d := d) (s := ⟨k, r, L, x, y, hd, mo, ti, l, [], 0⟩) hyp hW he]
              have hw := And.intro hkd (And.intro (ji1 (n := kd) (by omega)) (eq_false he))
              repeat' first | exact hrd.1 | exact hdl | exact hln | exact hb | exact hth.1 | exact hLl | exact hK.wf _ ‹_› | exact hth.2.2.2.2.1 (by assumption) _ ‹_› | exact hth.2.2.2.2.2.1 (by assumption) | simp only [PB, SB, E, MB, seval, rdB, ne_eq, implies_true, jaU, jah, jaA, ja4, jaS, jaT, jaV, jaW, tq0, tq1, tq2] | simp only [hw] | refine T.seq ?_ | refine T.stm ?_ | refine T.rg ?_ | refine jac ?_ | refine jad ?_ | refine jae ?_ | refine T.cond ?_ | refine T.skip ?_ | refine T.ret ?_ | refine T.exit ?_ | refine T.block ?_ | refine And.intro ?_ ?_ | (intro hyp0; have hyp := hyp0; (try simp only [HB, ne_eq, reduceCtorEq] at hyp); (try simp only [hyp0]); (try clear hyp0); try (exfalso; omega; done)) | omega
              refine ⟨_, clo_err _ _ _ _, ?_⟩
              repeat' first | simp only [PB, SB, E, MB, seval, rdB, ne_eq, implies_true, jaU, jah, jaA, ja4, jaS, jaT, jaV, jaW, tq0, tq1, tq2] | simp only [hw] | refine T.seq ?_ | refine T.stm ?_ | refine T.rg ?_ | refine jac ?_ | refine jad ?_ | refine jae ?_ | refine T.cond ?_ | refine T.skip ?_ | refine T.ret ?_ | refine T.exit ?_ | refine T.block ?_ | refine Cos.intro [] [0, 1, 2, 3, 4, 5, 6, 7, 8, 9] rfl ?_ | refine And.intro ?_ ?_ | (intro hyp0; have hyp := hyp0; (try simp only [HB, ne_eq, reduceCtorEq] at hyp); (try simp only [hyp0]); (try clear hyp0); try (exfalso; omega; done)) | omega
              all_goals (simp [zeroR, jdL]))
end
end Go.Proofs.YtcfkfgkndncanaaGreatDoor
