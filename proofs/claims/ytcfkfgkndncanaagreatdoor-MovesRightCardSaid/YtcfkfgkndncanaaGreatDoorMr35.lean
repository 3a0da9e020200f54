/- Texts of this claim, merged by a program of this claim: FApply4. -/
import Derived.Test.YtcfkfgkndncanaaGreatDoorMr17
import Derived.Test.YtcfkfgkndncanaaGreatDoorMr34
namespace Go.Proofs.YtcfkfgkndncanaaGreatDoor
set_option linter.unusedVariables false
set_option linter.unusedSimpArgs false
section
open Go.RowKit
set_option maxRecDepth 100000
set_option maxHeartbeats 4000000
theorem col_ok {d : List Int} {a : Nat} (h : colE d a = 0) : upE d a 4294967295 = 0 := by
  rcases colE_cases d a with q | q | q
  · exact q.1
  · rw [q.2.2] at h
    cases h
  · exact absurd (q.2.symm.trans h) q.1
theorem jgE {d : List Int} {a b : Nat} (h : RdOk d a) (e : a + varU d a = b) : RdOk d b := e ▸ ⟨ja6 h.1, h.2.1, h.2.2⟩
theorem jgF {d : List Int} {k nl n a pos : Nat} {L : List CD} {e : Int} (h : hdG d a pos L.length nl = jcN e) (he : ¬e = 0) : rnG d k nl (n + 1) a pos L = (e, 0, []) := by
  simp only [rnG, h, jcN, ne_eq, he, not_false_eq_true, if_true]
theorem jqX {d : List Int} {k nl n a pos a6 p1 N : Nat} {p : PD} {L : List CD} {U : Int × Nat × Nat × List CD} (h : hdG d a pos L.length nl = ⟨0, a6, p1, N, p⟩) (hU : letG d k p N a6 p1 L = U) : rnG d k nl (n + 1) a pos L = if U.1 ≠ 0 then (U.1, 0, []) else rnG d k nl n U.2.1 U.2.2.1 U.2.2.2 := by
  simp only [rnG, h, hU, ne_eq, not_true_eq_false, if_false]
theorem jol (r : Int) : 0 ≤ Utf.width r ∧ Utf.width r ≤ 2 := by
  unfold Utf.width
  repeat' split
  all_goals omega
theorem jp3 {k r pos : Nat} (h : pos < k * r) (hm : pos % k + 2 ≤ k) : pos + 1 < k * r := by
  have e := Nat.div_add_mod pos k
  have hq : pos / k < r := Nat.div_lt_of_lt_mul h
  have : k * (pos / k + 1) ≤ k * r := Nat.mul_le_mul_left k hq
  rw [Nat.mul_add, Nat.mul_one] at this
  omega
noncomputable def jgG : MSpec := jbV (α := Int × Int × (List CD) × Int × Int × Bool × Int × ByteArray × (List ByteArray) × (List ByteArray) × (List Int) × Nat) (fun ⟨k, r, L, x, y, hd, mo, ti, l, more, d, a⟩ => ([.ptr 0 0 0], [RB 2 k r L.length x y hd mo ti l more, rdr d a 0, .seq .cell L])) fun ⟨k, r, L, x, y, hd, mo, ti, l, more, d, a⟩ => (RdOk d a ∧ Szd k r L ∧ more.length ≤ 16, .ret (.tup []), [RB 3 k r L.length x y hd mo ti l more, rdr d (rnsG d a k.toNat more.length L).2.1 0, .dead, .seq .cell (rnsG d a k.toNat more.length L).2.2])
theorem jgH : ∀ (x y : Int × Int × (List CD) × Int × Int × Bool × Int × ByteArray × (List ByteArray) × (List ByteArray) × (List Int) × Nat), (fun (⟨k, r, L, x, y, hd, mo, ti, l, more, d, a⟩ : Int × Int × (List CD) × Int × Int × Bool × Int × ByteArray × (List ByteArray) × (List ByteArray) × (List Int) × Nat) => (([.ptr 0 0 0], [RB 2 k r L.length x y hd mo ti l more, rdr d a 0, .seq .cell L]) : List CV × KH)) x = (fun (⟨k, r, L, x, y, hd, mo, ti, l, more, d, a⟩ : Int × Int × (List CD) × Int × Int × Bool × Int × ByteArray × (List ByteArray) × (List ByteArray) × (List Int) × Nat) => (([.ptr 0 0 0], [RB 2 k r L.length x y hd mo ti l more, rdr d a 0, .seq .cell L]) : List CV × KH)) y → x = y := fun ⟨k, r, L, x, y, hd, mo, ti, l, more, d, a⟩ ⟨k', r', L', x', y', hd', mo', ti', l', more', d', a'⟩ h => by first | rfl | simpa [CP, jaC] using h | (simp [CP, jaC] at h ⊢; grind)
theorem jax (k : Int) (r : Int) (L : List CD) (x : Int) (y : Int) (hd : Bool) (mo : Int) (ti : ByteArray) (l : List ByteArray) (more : List ByteArray) (d : List Int) (a : Nat) : jgG [.ptr 0 0 0] [RB 2 k r L.length x y hd mo ti l more, rdr d a 0, .seq .cell L] = some (RdOk d a ∧ Szd k r L ∧ more.length ≤ 16, .ret (.tup []), [RB 3 k r L.length x y hd mo ti l more, rdr d (rnsG d a k.toNat more.length L).2.1 0, .dead, .seq .cell (rnsG d a k.toNat more.length L).2.2]) := jaX (α := Int × Int × (List CD) × Int × Int × Bool × Int × ByteArray × (List ByteArray) × (List ByteArray) × (List Int) × Nat) _ jgH (k, r, L, x, y, hd, mo, ti, l, more, d, a)
noncomputable def esp_rruns : ESpec := jfy (α := Int × Int × (List CD) × Int × Int × Bool × Int × ByteArray × (List ByteArray) × (List ByteArray) × (List Int) × Nat) (fun ⟨k, r, L, x, y, hd, mo, ti, l, more, d, a⟩ => ([.ptr 0 0 0], [RB 2 k r L.length x y hd mo ti l more, rdr d a 0, .seq .cell L])) fun ⟨k, r, L, x, y, hd, mo, ti, l, more, d, a⟩ => (rnsG d a k.toNat more.length L).1
theorem jay (k : Int) (r : Int) (L : List CD) (x : Int) (y : Int) (hd : Bool) (mo : Int) (ti : ByteArray) (l : List ByteArray) (more : List ByteArray) (d : List Int) (a : Nat) : esp_rruns [.ptr 0 0 0] [RB 2 k r L.length x y hd mo ti l more, rdr d a 0, .seq .cell L] = (rnsG d a k.toNat more.length L).1 := jb9 (α := Int × Int × (List CD) × Int × Int × Bool × Int × ByteArray × (List ByteArray) × (List ByteArray) × (List Int) × Nat) _ jgH (k, r, L, x, y, hd, mo, ti, l, more, d, a)
theorem jom : MutP Tryz.prog E0 67 jgG esp_rruns := MutP.of jgH fun ⟨k, r, L, x, y, hd, mo, ti, l, more, d, a⟩ hG => TF.intro (V := (VV [(104, conP jfH esp_some), (62, conP jdz esp_upto), (106, conP jgp esp_rdcol), (59, conF [.any] sp_width)] (.cons (chkFn_callable k_moves_reading_some) (MutP.soundP jms) (.cons (chkFn_callable k_moves_reading_upTo) (MutP.soundP jgo) (.cons (chkFn_callable k_moves_reading_color) (MutP.soundP jn9) (.cons (chkFn_callable k_utf_Width) (Fresh.soundF jhR) GOk.nil)))) 119 3)) k_moves_reading_runs rfl rfl (by
  dsimp only at hG ⊢
  obtain ⟨hr0, hz, hmo⟩ := hG
  have hle := hz.le
  obtain ⟨hk, hr, hl⟩ := hz
  have hr1 := hr0
  obtain ⟨h1, h2, h3⟩ := hr0
  obtain ⟨k, rfl⟩ : ∃ n : Nat, k = n := ⟨k.toNat, by omega⟩
  obtain ⟨r, rfl⟩ : ∃ n : Nat, r = n := ⟨r.toNat, by omega⟩
  simp only [Int.toNat_natCast] at hl ⊢
  have hv := jaB h3 a
  by_cases e1 : jeH d a = 0
  · have hW : rnsG d a k more.length L = rnG d k more.length (varV d a).toNat (a + varU d a) 0 L := by rw [rnsG, if_neg (by simp [e1])]
    rw [hW]
    generalize hWg : rnG d k more.length (varV d a).toNat (a + varU d a) 0 L = W
    have hw := e1
    repeat' first | exact hr1 | simp only [PB, SB, E, MB, seval, rdB, ne_eq, implies_true, jat, jau, jaa, jab, jaD, jaE, jaw, tq0, tq1, tq2] | simp only [hw] | simp only [hw2] | simp only [hw3] | simp only [hw4] | refine T.seq ?_ | refine T.stm ?_ | refine T.rg ?_ | refine jac ?_ | refine jad ?_ | refine jae ?_ | refine T.cond ?_ | refine T.skip ?_ | refine T.ret ?_ | refine T.exit ?_ | refine T.block ?_ | refine And.intro ?_ ?_ | (intro hyp0; have hyp := hyp0; (try simp only [HB, ne_eq, reduceCtorEq] at hyp); (try simp only [hyp0]); (try clear hyp0); try (exfalso; omega; done)) | omega
    have hr2 : RdOk d (a + varU d a) := ⟨ja6 h1, h2, h3⟩
    have hn0 : ((varV d a).toNat : Int) = varV d a := by omega
    have hn1 : ((varV d a).toNat : Int) < 18446744073709551616 := by omega
    refine T.loop (fun q : Nat × Nat × Nat × List CD => ⟨[(0, .ptr 0 0 0), (2, .int .i64 q.2.2.1), (3, .int .i64 q.2.2.2.length), (4, .int .u64 q.1)], [RB 2 k r q.2.2.2.length x y hd mo ti l more, rdr d q.2.1 0, .seq .cell q.2.2.2]⟩) (fun q => Few q.1 ∧ RdOk d q.2.1 ∧ q.2.2.1 ≤ q.2.2.2.length ∧ q.2.2.2.length = L.length ∧ rnG d k more.length q.1 q.2.1 q.2.2.1 q.2.2.2 = W) (fun q => q.1) ((varV d a).toNat, a + varU d a, 0, L) ⟨hn1, hr2, Nat.zero_le _, rfl, hWg⟩ (Cos.intro [0, 1, 2] [] rfl (by simp only [hn0]; (simp only [PB, SB, E, MB, seval, rdB, ne_eq, implies_true, jat, jau, jaa, jab, jaD, jaE, jaw, tq0, tq1, tq2]; first | done | ((repeat' apply And.intro) <;> first | rfl | omega | (simp; done) | (simp; omega))))) (fun q hq => ?_)
    obtain ⟨n, a0, pos, cur⟩ := q
    obtain ⟨hn, hra, hp, hcl, hg⟩ := hq
    dsimp only at hn hra hp hcl hg
    have hn' : (n : Int) < 18446744073709551616 := hn
    cases n with
    | zero =>
      simp only [rnG] at hg
      subst hg
      rw [jbB rfl, jbC rfl, ← hcl]
      repeat' first | simp only [PB, SB, E, MB, seval, rdB, ne_eq, implies_true, jat, jau, jaa, jab, jaD, jaE, jaw, tq0, tq1, tq2] | simp only [hw] | simp only [hw2] | simp only [hw3] | simp only [hw4] | refine T.seq ?_ | refine T.stm ?_ | refine T.rg ?_ | refine jac ?_ | refine jad ?_ | refine jae ?_ | refine T.cond ?_ | refine T.skip ?_ | refine T.ret ?_ | refine T.exit ?_ | refine T.block ?_ | refine Cos.intro [0, 1, 2, 2] [] rfl ?_ | refine And.intro ?_ ?_ | (intro hyp0; have hyp := hyp0; (try simp only [HB, ne_eq, reduceCtorEq] at hyp); (try simp only [hyp0]); (try clear hyp0); try (exfalso; omega; done)) | omega
    | succ n =>
      have g3 := hra.2.2
      obtain ⟨a1, b1⟩ : ∃ a1, a0 + varU d a0 = a1 := ⟨_, rfl⟩
      obtain ⟨a2, b2⟩ : ∃ a2, a1 + varU d a1 = a2 := ⟨_, rfl⟩
      obtain ⟨a3, b3⟩ : ∃ a3, a2 + varU d a2 = a3 := ⟨_, rfl⟩
      obtain ⟨a4, b4⟩ : ∃ a4, a3 + varU d a3 = a4 := ⟨_, rfl⟩
      obtain ⟨a5, b5⟩ : ∃ a5, a4 + varU d a4 = a5 := ⟨_, rfl⟩
      obtain ⟨a6, b6⟩ : ∃ a6, a5 + varU d a5 = a6 := ⟨_, rfl⟩
      have hr1 := jgE hra b1
      have hr2 := jgE hr1 b2
      have hr3 := jgE hr2 b3
      have hr4 := jgE hr3 b4
      have hr5 := jgE hr4 b5
      have hr6 := jgE hr5 b6
      have v0 := jaB g3 a0
      have v1 := jaB g3 a1
      have v2 := jaB g3 a2
      have v3 := jaB g3 a3
      have v4 := jaB g3 a4
      have v5 := jaB g3 a5
      have hp1 : ((pos + (varV d a0).toNat : Nat) : Int) = pos + varV d a0 := by omega
      by_cases t1 : upE d a0 ((cur.length : Int) - pos) = 0
      case neg =>
        have hH : hdG d a0 pos cur.length more.length = jcN (upE d a0 ((cur.length : Int) - pos)) := by simp only [hdG, t1, hp1, b1, b2, b3, b4, b5, ne_eq, not_true_eq_false, not_false_eq_true, if_true, if_false]
        rw [jgF hH t1] at hg
        subst hg
        rw [jaK t1, jaL t1]
        have hw2 := And.intro (b1) (And.intro (b2) (And.intro (b3) (And.intro (b4) (And.intro (b5) (And.intro (b6) (eq_false t1))))))
        repeat' first | exact hra | simp only [PB, SB, E, MB, seval, rdB, ne_eq, implies_true, jat, jau, jaa, jab, jaD, jaE, jaw, tq0, tq1, tq2] | simp only [hw] | simp only [hw2] | simp only [hw3] | simp only [hw4] | refine T.seq ?_ | refine T.stm ?_ | refine T.rg ?_ | refine jac ?_ | refine jad ?_ | refine jae ?_ | refine T.cond ?_ | refine T.skip ?_ | refine T.ret ?_ | refine T.exit ?_ | refine T.block ?_ | refine Cos.err (Cos.intro [0, 1, 2] [] rfl ?_) | refine And.intro ?_ ?_ | (intro hyp0; have hyp := hyp0; (try simp only [HB, ne_eq, reduceCtorEq] at hyp); (try simp only [hyp0]); (try clear hyp0); try (exfalso; omega; done)) | omega
      have u1 := jbz t1
      by_cases t2 : upE d a1 ((cur.length : Int) - (pos + varV d a0)) = 0
      case neg =>
        have hH : hdG d a0 pos cur.length more.length = jcN (upE d a1 ((cur.length : Int) - (pos + varV d a0))) := by simp only [hdG, t1, t2, hp1, b1, b2, b3, b4, b5, ne_eq, not_true_eq_false, not_false_eq_true, if_true, if_false]
        rw [jgF hH t2] at hg
        subst hg
        rw [jaK t2, jaL t2]
        have hw2 := And.intro (b1) (And.intro (b2) (And.intro (b3) (And.intro (b4) (And.intro (b5) (And.intro (b6) (And.intro (t1) (eq_false t2)))))))
        repeat' first | exact hra | exact hr1 | simp only [PB, SB, E, MB, seval, rdB, ne_eq, implies_true, jat, jau, jaa, jab, jaD, jaE, jaw, tq0, tq1, tq2] | simp only [hw] | simp only [hw2] | simp only [hw3] | simp only [hw4] | refine T.seq ?_ | refine T.stm ?_ | refine T.rg ?_ | refine jac ?_ | refine jad ?_ | refine jae ?_ | refine T.cond ?_ | refine T.skip ?_ | refine T.ret ?_ | refine T.exit ?_ | refine T.block ?_ | refine Cos.err (Cos.intro [0, 1, 2] [] rfl ?_) | refine And.intro ?_ ?_ | (intro hyp0; have hyp := hyp0; (try simp only [HB, ne_eq, reduceCtorEq] at hyp); (try simp only [hyp0]); (try clear hyp0); try (exfalso; omega; done)) | omega
      have u2 := jbz t2
      by_cases t3 : varV d a1 = 0
      case pos =>
        have hH : hdG d a0 pos cur.length more.length = jcN (3) := by simp only [hdG, t1, t2, t3, hp1, b1, b2, b3, b4, b5, ne_eq, not_true_eq_false, not_false_eq_true, if_true, if_false]
        rw [jgF hH (by decide)] at hg
        subst hg
        rw [jaK (by decide), jaL (by decide)]
        have hw2 := And.intro (b1) (And.intro (b2) (And.intro (b3) (And.intro (b4) (And.intro (b5) (And.intro (b6) (And.intro (t1) (And.intro (t2) (t3))))))))
        repeat' first | exact hra | exact hr1 | simp only [PB, SB, E, MB, seval, rdB, ne_eq, implies_true, jat, jau, jaa, jab, jaD, jaE, jaw, tq0, tq1, tq2] | simp only [hw] | simp only [hw2] | simp only [hw3] | simp only [hw4] | refine T.seq ?_ | refine T.stm ?_ | refine T.rg ?_ | refine jac ?_ | refine jad ?_ | refine jae ?_ | refine T.cond ?_ | refine T.skip ?_ | refine T.ret ?_ | refine T.exit ?_ | refine T.block ?_ | refine Cos.err (Cos.intro [0, 1, 2] [] rfl ?_) | refine And.intro ?_ ?_ | (intro hyp0; have hyp := hyp0; (try simp only [HB, ne_eq, reduceCtorEq] at hyp); (try simp only [hyp0]); (try clear hyp0); try (exfalso; omega; done)) | omega
      by_cases t4 : colE d a2 = 0
      case neg =>
        have hH : hdG d a0 pos cur.length more.length = jcN (colE d a2) := by simp only [hdG, t1, t2, t3, t4, hp1, b1, b2, b3, b4, b5, ne_eq, not_true_eq_false, not_false_eq_true, if_true, if_false]
        rw [jgF hH t4] at hg
        subst hg
        rw [jaK t4, jaL t4]
        have hw2 := And.intro (b1) (And.intro (b2) (And.intro (b3) (And.intro (b4) (And.intro (b5) (And.intro (b6) (And.intro (t1) (And.intro (t2) (And.intro (eq_false t3) (eq_false t4)))))))))
        repeat' first | exact hra | exact hr1 | exact hr2 | simp only [PB, SB, E, MB, seval, rdB, ne_eq, implies_true, jat, jau, jaa, jab, jaD, jaE, jaw, tq0, tq1, tq2] | simp only [hw] | simp only [hw2] | simp only [hw3] | simp only [hw4] | refine T.seq ?_ | refine T.stm ?_ | refine T.rg ?_ | refine jac ?_ | refine jad ?_ | refine jae ?_ | refine T.cond ?_ | refine T.skip ?_ | refine T.ret ?_ | refine T.exit ?_ | refine T.block ?_ | refine Cos.err (Cos.intro [0, 1, 2] [] rfl ?_) | refine And.intro ?_ ?_ | (intro hyp0; have hyp := hyp0; (try simp only [HB, ne_eq, reduceCtorEq] at hyp); (try simp only [hyp0]); (try clear hyp0); try (exfalso; omega; done)) | omega
      have u4 := jbz (col_ok t4)
      by_cases t5 : colE d a3 = 0
      case neg =>
        have hH : hdG d a0 pos cur.length more.length = jcN (colE d a3) := by simp only [hdG, t1, t2, t3, t4, t5, hp1, b1, b2, b3, b4, b5, ne_eq, not_true_eq_false, not_false_eq_true, if_true, if_false]
        rw [jgF hH t5] at hg
        subst hg
        rw [jaK t5, jaL t5]
        have hw2 := And.intro (b1) (And.intro (b2) (And.intro (b3) (And.intro (b4) (And.intro (b5) (And.intro (b6) (And.intro (t1) (And.intro (t2) (And.intro (eq_false t3) (And.intro (t4) (eq_false t5))))))))))
        repeat' first | exact hra | exact hr1 | exact hr2 | exact hr3 | simp only [PB, SB, E, MB, seval, rdB, ne_eq, implies_true, jat, jau, jaa, jab, jaD, jaE, jaw, tq0, tq1, tq2] | simp only [hw] | simp only [hw2] | simp only [hw3] | simp only [hw4] | refine T.seq ?_ | refine T.stm ?_ | refine T.rg ?_ | refine jac ?_ | refine jad ?_ | refine jae ?_ | refine T.cond ?_ | refine T.skip ?_ | refine T.ret ?_ | refine T.exit ?_ | refine T.block ?_ | refine Cos.err (Cos.intro [0, 1, 2] [] rfl ?_) | refine And.intro ?_ ?_ | (intro hyp0; have hyp := hyp0; (try simp only [HB, ne_eq, reduceCtorEq] at hyp); (try simp only [hyp0]); (try clear hyp0); try (exfalso; omega; done)) | omega
      have u5 := jbz (col_ok t5)
      by_cases t6 : upE d a4 255 = 0
      case neg =>
        have hH : hdG d a0 pos cur.length more.length = jcN (upE d a4 255) := by simp only [hdG, t1, t2, t3, t4, t5, t6, hp1, b1, b2, b3, b4, b5, ne_eq, not_true_eq_false, not_false_eq_true, if_true, if_false]
        rw [jgF hH t6] at hg
        subst hg
        rw [jaK t6, jaL t6]
        have hw2 := And.intro (b1) (And.intro (b2) (And.intro (b3) (And.intro (b4) (And.intro (b5) (And.intro (b6) (And.intro (t1) (And.intro (t2) (And.intro (eq_false t3) (And.intro (t4) (And.intro (t5) (eq_false t6)))))))))))
        repeat' first | exact hra | exact hr1 | exact hr2 | exact hr3 | exact hr4 | simp only [PB, SB, E, MB, seval, rdB, ne_eq, implies_true, jat, jau, jaa, jab, jaD, jaE, jaw, tq0, tq1, tq2] | simp only [hw] | simp only [hw2] | simp only [hw3] | simp only [hw4] | refine T.seq ?_ | refine T.stm ?_ | refine T.rg ?_ | refine jac ?_ | refine jad ?_ | refine jae ?_ | refine T.cond ?_ | refine T.skip ?_ | refine T.ret ?_ | refine T.exit ?_ | refine T.block ?_ | refine Cos.err (Cos.intro [0, 1, 2] [] rfl ?_) | refine And.intro ?_ ?_ | (intro hyp0; have hyp := hyp0; (try simp only [HB, ne_eq, reduceCtorEq] at hyp); (try simp only [hyp0]); (try clear hyp0); try (exfalso; omega; done)) | omega
      have u6 := jbz t6
      by_cases t7 : upE d a5 more.length = 0
      case neg =>
        have hH : hdG d a0 pos cur.length more.length = jcN (upE d a5 more.length) := by simp only [hdG, t1, t2, t3, t4, t5, t6, t7, hp1, b1, b2, b3, b4, b5, ne_eq, not_true_eq_false, not_false_eq_true, if_true, if_false]
        rw [jgF hH t7] at hg
        subst hg
        rw [jaK t7, jaL t7]
        have hw2 := And.intro (b1) (And.intro (b2) (And.intro (b3) (And.intro (b4) (And.intro (b5) (And.intro (b6) (And.intro (t1) (And.intro (t2) (And.intro (eq_false t3) (And.intro (t4) (And.intro (t5) (And.intro (t6) (eq_false t7))))))))))))
        repeat' first | exact hra | exact hr1 | exact hr2 | exact hr3 | exact hr4 | exact hr5 | simp only [PB, SB, E, MB, seval, rdB, ne_eq, implies_true, jat, jau, jaa, jab, jaD, jaE, jaw, tq0, tq1, tq2] | simp only [hw] | simp only [hw2] | simp only [hw3] | simp only [hw4] | refine T.seq ?_ | refine T.stm ?_ | refine T.rg ?_ | refine jac ?_ | refine jad ?_ | refine jae ?_ | refine T.cond ?_ | refine T.skip ?_ | refine T.ret ?_ | refine T.exit ?_ | refine T.block ?_ | refine Cos.err (Cos.intro [0, 1, 2] [] rfl ?_) | refine And.intro ?_ ?_ | (intro hyp0; have hyp := hyp0; (try simp only [HB, ne_eq, reduceCtorEq] at hyp); (try simp only [hyp0]); (try clear hyp0); try (exfalso; omega; done)) | omega
      have u7 := jbz t7
      have hH : hdG d a0 pos cur.length more.length = ⟨0, a6, pos + (varV d a0).toNat, (varV d a1).toNat, ⟨varV d a2, varV d a3, varV d a4, varV d a5⟩⟩ := by simp only [hdG, t1, t2, t3, t4, t5, t6, t7, hp1, b1, b2, b3, b4, b5, b6, ne_eq, not_true_eq_false, not_false_eq_true, if_true, if_false]
      obtain ⟨U, hU⟩ : ∃ U, letG d k ⟨varV d a2, varV d a3, varV d a4, varV d a5⟩ (varV d a1).toNat a6 (pos + (varV d a0).toNat) cur = U := ⟨_, rfl⟩
      rw [jqX hH hU] at hg
      have hw2 := And.intro (b1) (And.intro (b2) (And.intro (b3) (And.intro (b4) (And.intro (b5) (And.intro (b6) (And.intro (t1) (And.intro (t2) (And.intro (eq_false t3) (And.intro (t4) (And.intro (t5) (And.intro (t6) (t7))))))))))))
      have hw3 := And.intro (w_u8 (n := varV d a4) (by omega)) (ji0 (n := varV d a5) (by omega))
      repeat' first | exact hra | exact hr1 | exact hr2 | exact hr3 | exact hr4 | exact hr5 | simp only [PB, SB, E, MB, seval, rdB, ne_eq, implies_true, jat, jau, jaa, jab, jaD, jaE, jaw, tq0, tq1, tq2] | simp only [hw] | simp only [hw2] | simp only [hw3] | simp only [hw4] | refine T.seq ?_ | refine T.stm ?_ | refine T.rg ?_ | refine jac ?_ | refine jad ?_ | refine jae ?_ | refine T.cond ?_ | refine T.skip ?_ | refine T.ret ?_ | refine T.exit ?_ | refine T.block ?_ | refine And.intro ?_ ?_ | (intro hyp0; have hyp := hyp0; (try simp only [HB, ne_eq, reduceCtorEq] at hyp); (try simp only [hyp0]); (try clear hyp0); try (exfalso; omega; done)) | omega
      have hN : ((varV d a1).toNat : Int) = varV d a1 := by omega
      have hp0 : pos + (varV d a0).toNat ≤ cur.length := by omega
      refine T.loop (fun q : Nat × Nat × Nat × List CD => ⟨[(0, .ptr 0 0 0), (2, .int .i64 q.2.2.1), (3, .int .i64 q.2.2.2.length), (4, .int .u64 ((n + 1 : Nat) : Int)), (6, .ptr 3 0 0), (52, .int .i64 (varV d a1)), (53, .int .i64 q.1)], [RB 2 k r q.2.2.2.length x y hd mo ti l more, rdr d q.2.1 0, .seq .cell q.2.2.2, .box [.int .u32 (varV d a2), .int .u32 (varV d a3), .int .u8 (varV d a4), .int .u16 (varV d a5)]]⟩) (fun q => q.1 ≤ (varV d a1).toNat ∧ RdOk d q.2.1 ∧ q.2.2.1 ≤ q.2.2.2.length ∧ q.2.2.2.length = L.length ∧ letG d k ⟨varV d a2, varV d a3, varV d a4, varV d a5⟩ ((varV d a1).toNat - q.1) q.2.1 q.2.2.1 q.2.2.2 = U) (fun q => (varV d a1).toNat - q.1) (0, a6, pos + (varV d a0).toNat, cur) ⟨Nat.zero_le _, hr6, hp0, hcl, hU⟩ (Cos.intro [0, 1, 2, 3] [] rfl (by simp only [hp1]; (simp only [PB, SB, E, MB, seval, rdB, ne_eq, implies_true, jat, jau, jaa, jab, jaD, jaE, jaw, tq0, tq1, tq2]; first | done | ((repeat' apply And.intro) <;> first | rfl | omega | (simp; done) | (simp; omega))))) (fun q hq => ?_)
      clear hw2 hw3
      obtain ⟨i, c0, ps, crr⟩ := q
      obtain ⟨hi, hra', hp', hcl', hU'⟩ := hq
      dsimp only at hi hra' hp' hcl' hU'
      have g4 := jaB g3 c0
      by_cases hiN : i < (varV d a1).toNat
      · obtain ⟨m, hm⟩ : ∃ m, (varV d a1).toNat - i = m + 1 := ⟨(varV d a1).toNat - i - 1, by omega⟩
        rw [hm] at hU'
        simp only [letG] at hU'
        by_cases s1 : upE d c0 1114111 = 0
        case neg =>
          rw [if_pos s1] at hU'
          subst hU'
          rw [if_pos s1] at hg
          subst hg
          rw [jaK s1, jaL s1]
          have hw2 := eq_false s1
          repeat' first | exact hra' | simp only [PB, SB, E, MB, seval, rdB, ne_eq, implies_true, jat, jau, jaa, jab, jaD, jaE, jaw, tq0, tq1, tq2] | simp only [hw] | simp only [hw2] | simp only [hw3] | simp only [hw4] | refine T.seq ?_ | refine T.stm ?_ | refine T.rg ?_ | refine jac ?_ | refine jad ?_ | refine jae ?_ | refine T.cond ?_ | refine T.skip ?_ | refine T.ret ?_ | refine T.exit ?_ | refine T.block ?_ | refine Cos.err (Cos.intro [0, 1, 2] [] rfl ?_) | refine And.intro ?_ ?_ | (intro hyp0; have hyp := hyp0; (try simp only [HB, ne_eq, reduceCtorEq] at hyp); (try simp only [hyp0]); (try clear hyp0); try (exfalso; omega; done)) | omega
        have w1 := jbz s1
        rw [if_neg (by simp [s1])] at hU'
        obtain ⟨c1, b7⟩ : ∃ c1, c0 + varU d c0 = c1 := ⟨_, rfl⟩
        have hrc := jgE hra' b7
        rw [b7] at hU'
        have hI : I32 (varV d c0) := by
          unfold I32
          omega
        have hw3 := And.intro (jlI (n := varV d c0) (by omega)) (And.intro b7 s1)
        have hm1 : ((ps % k : Nat) : Int) = (ps : Int) % (k : Int) := rfl
        have hm2 : 0 ≤ (ps : Int) % (k : Int) ∧ (ps : Int) % (k : Int) < k := by
          rw [← hm1]
          have := Nat.mod_lt ps (show 0 < k by omega)
          omega
        have hwd := jol (varV d c0)
        by_cases s2 : Utf.width (varV d c0) = 0 ∨ ps = crr.length ∨ (k : Int) < ((ps % k : Nat) : Int) + Utf.width (varV d c0)
        · rw [if_pos s2] at hU'
          subst hU'
          rw [if_pos (by decide)] at hg
          subst hg
          rw [jaK (by decide), jaL (by decide)]
          repeat' first | exact hra' | exact hI | simp only [PB, SB, E, MB, seval, rdB, ne_eq, implies_true, jat, jau, jaa, jab, jaD, jaE, jaw, tq0, tq1, tq2] | simp only [hw] | simp only [hw2] | simp only [hw3] | simp only [hw4] | refine T.seq ?_ | refine T.stm ?_ | refine T.rg ?_ | refine jac ?_ | refine jad ?_ | refine jae ?_ | refine T.cond ?_ | refine T.skip ?_ | refine T.ret ?_ | refine T.exit ?_ | refine T.block ?_ | refine Cos.err (Cos.intro [0, 1, 2] [] rfl ?_) | refine And.intro ?_ ?_ | (intro hyp0; have hyp := hyp0; (try simp only [HB, ne_eq, reduceCtorEq] at hyp); (try simp only [hyp0]); (try clear hyp0); try (exfalso; omega; done)) | omega
        · rw [if_neg s2] at hU'
          have s3 := not_or.mp s2
          have s4 := not_or.mp s3.2
          have s5 := s4.2
          rw [hm1] at s5
          have hput : (putL crr ps (varV d c0) (Utf.width (varV d c0)) ⟨varV d a2, varV d a3, varV d a4, varV d a5⟩).length = crr.length := jkg _ _ _ _ _
          have hin : Utf.width (varV d c0) = 2 → ps + 1 < crr.length := fun e => by
            rw [e] at s5
            rw [hcl', hl]
            exact jp3 (by rw [← hl, ← hcl']; omega) (by omega)
          have hget : ∀ A : CD, (crr.set ps A).getD ps default = A := fun A => jdA (by omega)
          have hset : ∀ A B : CD, (crr.set ps A).set ps B = crr.set ps B := fun A B => List.set_set ..
          have hw4 := And.intro hget hset
          have hps : (ps : Int) + Utf.width (varV d c0) = ((ps + (Utf.width (varV d c0)).toNat : Nat) : Int) := by omega
          repeat' first | exact hra' | exact hI | exact hin ‹_› | exact Int.ofNat_lt.mpr (hin ‹_›) | simp only [PB, SB, E, MB, seval, rdB, ne_eq, implies_true, jat, jau, jaa, jab, jaD, jaE, jaw, tq0, tq1, tq2] | simp only [hw] | simp only [hw2] | simp only [hw3] | simp only [hw4] | refine T.seq ?_ | refine T.stm ?_ | refine T.rg ?_ | refine jac ?_ | refine jad ?_ | refine jae ?_ | refine T.cond ?_ | refine T.skip ?_ | refine T.ret ?_ | refine T.exit ?_ | refine T.block ?_ | refine And.intro ?_ ?_ | (intro hyp0; have hyp := hyp0; (try simp only [HB, ne_eq, reduceCtorEq] at hyp); (try simp only [hyp0]); (try clear hyp0); try (exfalso; omega; done)) | omega
          · have hx := hin hyp
            refine ⟨(i + 1, c1, ps + (Utf.width (varV d c0)).toNat, putL crr ps (varV d c0) (Utf.width (varV d c0)) ⟨varV d a2, varV d a3, varV d a4, varV d a5⟩), ⟨?_, hrc, ?_, hput.trans hcl', ?_⟩, ?_, Cos.intro [0, 1, 2, 3] [] rfl ?_⟩
            · dsimp only
              omega
            · dsimp only
              rw [hput]
              omega
            · dsimp only
              rw [show (varV d a1).toNat - (i + 1) = m by omega]
              exact hU'
            · dsimp only
              omega
            · dsimp only
              rw [hps, hput]
              rw [putL, if_pos hyp]
              (simp only [PB, SB, E, MB, seval, rdB, ne_eq, implies_true, jat, jau, jaa, jab, jaD, jaE, jaw, tq0, tq1, tq2]; first | done | ((repeat' apply And.intro) <;> first | rfl | omega | (simp; done) | (simp; omega)))
          · refine ⟨(i + 1, c1, ps + (Utf.width (varV d c0)).toNat, putL crr ps (varV d c0) (Utf.width (varV d c0)) ⟨varV d a2, varV d a3, varV d a4, varV d a5⟩), ⟨?_, hrc, ?_, hput.trans hcl', ?_⟩, ?_, Cos.intro [0, 1, 2, 3] [] rfl ?_⟩
            · dsimp only
              omega
            · dsimp only
              rw [hput]
              omega
            · dsimp only
              rw [show (varV d a1).toNat - (i + 1) = m by omega]
              exact hU'
            · dsimp only
              omega
            · dsimp only
              rw [hps, hput]
              rw [putL, if_neg hyp]
              (simp only [PB, SB, E, MB, seval, rdB, ne_eq, implies_true, jat, jau, jaa, jab, jaD, jaE, jaw, tq0, tq1, tq2]; first | done | ((repeat' apply And.intro) <;> first | rfl | omega | (simp; done) | (simp; omega)))
      · rw [show (varV d a1).toNat - i = 0 by omega] at hU'
        simp only [letG] at hU'
        subst hU'
        rw [if_neg (by simp)] at hg
        have hwr : IntKind.u64.wrap (((n + 1 : Nat) : Int) - 1) = n := by
          rw [show ((n + 1 : Nat) : Int) - 1 = n by omega]
          exact jnD (by omega)
        have hw2 := hwr
        repeat' first | simp only [PB, SB, E, MB, seval, rdB, ne_eq, implies_true, jat, jau, jaa, jab, jaD, jaE, jaw, tq0, tq1, tq2] | simp only [hw] | simp only [hw2] | simp only [hw3] | simp only [hw4] | refine T.seq ?_ | refine T.stm ?_ | refine T.rg ?_ | refine jac ?_ | refine jad ?_ | refine jae ?_ | refine T.cond ?_ | refine T.skip ?_ | refine T.ret ?_ | refine T.exit ?_ | refine T.block ?_ | refine And.intro ?_ ?_ | (intro hyp0; have hyp := hyp0; (try simp only [HB, ne_eq, reduceCtorEq] at hyp); (try simp only [hyp0]); (try clear hyp0); try (exfalso; omega; done)) | omega
        exact ⟨(n, c0, ps, crr), ⟨by unfold Few; omega, hra', hp', hcl', hg⟩, Nat.lt_succ_self _, Cos.intro [0, 1, 2] [] rfl (by (simp only [PB, SB, E, MB, seval, rdB, ne_eq, implies_true, jat, jau, jaa, jab, jaD, jaE, jaw, tq0, tq1, tq2]; first | done | ((repeat' apply And.intro) <;> first | rfl | omega | (simp; done) | (simp; omega))))⟩
  · have hW : rnsG d a k more.length L = (jeH d a, 0, []) := by rw [rnsG, if_pos e1]
    rw [hW, jaK e1, jaL e1]
    have hw := eq_false e1
    repeat' first | exact hr1 | simp only [PB, SB, E, MB, seval, rdB, ne_eq, implies_true, jat, jau, jaa, jab, jaD, jaE, jaw, tq0, tq1, tq2] | simp only [hw] | simp only [hw2] | simp only [hw3] | simp only [hw4] | refine T.seq ?_ | refine T.stm ?_ | refine T.rg ?_ | refine jac ?_ | refine jad ?_ | refine jae ?_ | refine T.cond ?_ | refine T.skip ?_ | refine T.ret ?_ | refine T.exit ?_ | refine T.block ?_ | refine Cos.err (Cos.intro [0, 1, 2] [] rfl ?_) | refine And.intro ?_ ?_ | (intro hyp0; have hyp := hyp0; (try simp only [HB, ne_eq, reduceCtorEq] at hyp); (try simp only [hyp0]); (try clear hyp0); try (exfalso; omega; done)) | omega)
end
end Go.Proofs.YtcfkfgkndncanaaGreatDoor
