/- Texts of this claim, merged by a program of this claim: FBytes. -/
import Derived.Test.YtcfkfgkndncanaaDoorMp14
import Derived.Test.YtcfkfgkndncanaaDoorMp15
namespace Go.Proofs.YtcfkfgkndncanaaDoor
set_option linter.unusedVariables false
set_option linter.unusedSimpArgs false
section
open Go.RowKit
set_option maxRecDepth 100000
set_option maxHeartbeats 4000000
def varsI (L : List Int) : List Int := L.flatMap fun x => varN x.toNat
theorem varsI_snoc {L : List Int} {k : Nat} (h : k < L.length) : varsI (L.take (k + 1)) = varsI (L.take k) ++ varN (L.getD k 0).toNat := by
  rw [take_snoc_get (getD_at (d := 0) h), varsI, List.flatMap_append]
  simp [varsI]
theorem varsI_len (L : List Int) (h : ∀ x ∈ L, x < 18446744073709551616) : (varsI L).length ≤ 10 * L.length := by
  induction L with
  | nil => simp [varsI]
  | cons a L ih =>
    have h1 := varN_len10 a.toNat (by have := h a (by simp); omega)
    have h2 := ih fun x hx => h x (by simp [hx])
    simp only [varsI, List.flatMap_cons, List.length_append, List.length_cons] at *
    omega
theorem varN_next {n : Int} (h0 : 0 ≤ n) (h : ¬ n < 128) : varN n.toNat = (n % 128 + 128) :: varN (n / 128).toNat := by
  obtain ⟨m, rfl⟩ : ∃ m : Nat, n = m := ⟨n.toNat, by omega⟩
  rw [Int.toNat_natCast, varN_great (by omega)]
  congr 1
theorem varN_last {n : Int} (h0 : 0 ≤ n) (h : n < 128) : varN n.toNat = [n] := by
  rw [varN_small (by omega)]
  congr 1
  omega
theorem w_u8m (m : Int) : IntKind.u8.wrap m = m % 256 := by
  simp only [IntKind.wrap, IntKind.signed, IntKind.bits, Bool.false_and, Bool.false_eq_true, if_false]
  rfl
theorem or128 {m : Int} (h : 0 ≤ m) : ((m % 256).toNat ||| 128) = (m % 128 + 128).toNat := by
  have := or128_nat ⟨(m % 256).toNat, by omega⟩
  simp only at this
  rw [this]
  omega
noncomputable def sp_var : Spec := spOf (α := Int) (fun n => [.int .u64 n]) fun n => (0 ≤ n ∧ n < 18446744073709551616, .ret (.vec (.int .u8) (varN n.toNat)))
theorem sp_var_at (n : Int) : sp_var [.int .u64 n] = some (0 ≤ n ∧ n < 18446744073709551616, .ret (.vec (.int .u8) (varN n.toNat))) := spOf_at (α := Int) _ (fun n n' h => by first | simpa [CP] using h | (simp [CP] at h ⊢; grind)) n
theorem fr_var : Fresh Tryd.prog E0 57 sp_var := Fresh.of fun n hG => TF.intro (V := (VV [] GOk.nil 19 0)) k_wire_Var rfl rfl (by
  dsimp only at hG ⊢
  repeat' first | simp only [SB, E, seval, rdB, ne_eq, implies_true] | simp only [hw] | simp only [hw2] | refine T.seq ?_ | refine T.stm ?_ | refine T.rg ?_ | refine wpR_o ?_ | refine wpR_g ?_ | refine wpR_e ?_ | refine T.cond ?_ | refine T.skip ?_ | refine T.ret ?_ | refine T.exit ?_ | refine T.block ?_ | refine And.intro ?_ ?_ | (intro hyp0; have hyp := hyp0; (try simp only [HB, ne_eq, reduceCtorEq] at hyp); (try simp only [hyp0]); (try clear hyp0); try (exfalso; omega; done)) | omega
  refine T.loop (fun x : List Int × Int => ⟨[(0, .int .u64 x.2), (3, .slice 0 0 1 x.1.length x.1.length)], [.seq (.int .u8) x.1]⟩) (fun x => (0 ≤ x.2 ∧ x.2 < 18446744073709551616) ∧ varN n.toNat = x.1 ++ varN x.2.toNat) (fun x => x.2.toNat) ([], n) ⟨by omega, rfl⟩ (Cos.intro [99] [] rfl (by simp only [SB, E, seval, rdB, ne_eq, implies_true]; first | done | simp [crs, crsL, emptyB])) (fun ⟨P, m⟩ ⟨hm, hv⟩ => ?_)
  dsimp only at hm hv ⊢
  have h10 := varN_len10 n.toNat (by omega)
  have hlen := congrArg List.length hv
  rw [List.length_append] at hlen
  have hpos := varN_pos m.toNat
  have hw := w_u8m m
  have hw2 := or128 hm.1
  repeat' first | exact (by decide : (7 : Int) ≤ 64) | simp only [SB, E, seval, rdB, ne_eq, implies_true] | simp only [hw] | simp only [hw2] | refine T.seq ?_ | refine T.stm ?_ | refine T.rg ?_ | refine wpR_o ?_ | refine wpR_g ?_ | refine wpR_e ?_ | refine T.cond ?_ | refine T.skip ?_ | refine T.ret ?_ | refine T.exit ?_ | refine T.block ?_ | refine And.intro ?_ ?_ | (intro hyp0; have hyp := hyp0; (try simp only [HB, ne_eq, reduceCtorEq] at hyp); (try simp only [hyp0]); (try clear hyp0); try (exfalso; omega; done)) | omega
  · refine ⟨(P ++ [m % 128 + 128], m / 128), ⟨by simp only; omega, ?_⟩, by simp only; omega, Cos.intro [2] [] rfl ?_⟩
    · rw [hv, varN_next hm.1 (by omega)]
      simp
    · rw [show ((m % 128 + 128).toNat : Int) = m % 128 + 128 by omega]
      simp only [SB, E, seval, rdB, ne_eq, implies_true]
      simp
  · exact Cos.row (t := .int .u8) (L := varN n.toNat) rfl (by rw [hv, varN_last hm.1 (by omega), show m % 256 = m by omega]) (by simp) (by simp))
noncomputable def sp_rvar : Spec := spOf (α := Int) (fun n => [.int .u64 n]) fun n => (0 ≤ n ∧ n < 18446744073709551616, .ret (.vec (.int .u8) (varN n.toNat)))
theorem sp_rvar_at (n : Int) : sp_rvar [.int .u64 n] = some (0 ≤ n ∧ n < 18446744073709551616, .ret (.vec (.int .u8) (varN n.toNat))) := spOf_at (α := Int) _ (fun n n' h => by first | simpa [CP] using h | (simp [CP] at h ⊢; grind)) n
theorem fr_rvar : Fresh Tryd.prog E0 51 sp_rvar := Fresh.of fun n hG => TF.intro (V := (VV [] GOk.nil 22 0)) k_r01_Var rfl rfl (by
  dsimp only at hG ⊢
  repeat' first | simp only [SB, E, seval, rdB, ne_eq, implies_true] | simp only [hw] | simp only [hw2] | simp only [hw3] | refine T.seq ?_ | refine T.stm ?_ | refine T.rg ?_ | refine wpR_o ?_ | refine wpR_g ?_ | refine wpR_e ?_ | refine T.cond ?_ | refine T.skip ?_ | refine T.ret ?_ | refine T.exit ?_ | refine T.block ?_ | refine And.intro ?_ ?_ | (intro hyp0; have hyp := hyp0; (try simp only [HB, ne_eq, reduceCtorEq] at hyp); (try simp only [hyp0]); (try clear hyp0); try (exfalso; omega; done)) | omega
  refine T.loop (fun x : List Int × Int => ⟨[(0, .int .u64 x.2), (3, .slice 0 0 1 x.1.length x.1.length)], [.seq (.int .u8) x.1]⟩) (fun x => (0 ≤ x.2 ∧ x.2 < 18446744073709551616) ∧ varN n.toNat = x.1 ++ varN x.2.toNat) (fun x => x.2.toNat) ([], n) ⟨by omega, rfl⟩ (Cos.intro [0] [] rfl (by simp only [SB, E, seval, rdB, ne_eq, implies_true])) (fun ⟨P, m⟩ ⟨hm, hv⟩ => ?_)
  dsimp only at hm hv ⊢
  have h10 := varN_len10 n.toNat (by omega)
  have hlen := congrArg List.length hv
  rw [List.length_append] at hlen
  have hpos := varN_pos m.toNat
  have hw := w_u8m m
  have hw2 : IntKind.u64.wrap (m % 128 + 128) = m % 128 + 128 := w_u64 (by omega)
  have hw3 : IntKind.u8.wrap (m % 128 + 128) = m % 128 + 128 := w_u8 (by omega)
  repeat' first | simp only [SB, E, seval, rdB, ne_eq, implies_true] | simp only [hw] | simp only [hw2] | simp only [hw3] | refine T.seq ?_ | refine T.stm ?_ | refine T.rg ?_ | refine wpR_o ?_ | refine wpR_g ?_ | refine wpR_e ?_ | refine T.cond ?_ | refine T.skip ?_ | refine T.ret ?_ | refine T.exit ?_ | refine T.block ?_ | refine And.intro ?_ ?_ | (intro hyp0; have hyp := hyp0; (try simp only [HB, ne_eq, reduceCtorEq] at hyp); (try simp only [hyp0]); (try clear hyp0); try (exfalso; omega; done)) | omega
  · exact Cos.row (t := .int .u8) (L := varN n.toNat) rfl (by rw [hv, varN_last hm.1 (by omega), show m % 256 = m by omega]) (by simp) (by simp)
  · refine ⟨(P ++ [m % 128 + 128], m / 128), ⟨by simp only; omega, ?_⟩, by simp only; omega, Cos.intro [2] [] rfl (by (simp only [SB, E, seval, rdB, ne_eq, implies_true]; first | done | ((repeat' apply And.intro) <;> first | rfl | omega | (simp; done) | (simp; omega))))⟩
    rw [hv, varN_next hm.1 (by omega)]
    simp)
noncomputable def sp_vars : Spec := spOf (α := (List Int)) (fun L => [.vec (.int .i64) L]) fun L => ((∀ x ∈ L, 0 ≤ x ∧ x < 9223372036854775808) ∧ L.length ≤ 100000, .ret (.vec (.int .u8) (varsI L)))
theorem sp_vars_at (L : List Int) : sp_vars [.vec (.int .i64) L] = some ((∀ x ∈ L, 0 ≤ x ∧ x < 9223372036854775808) ∧ L.length ≤ 100000, .ret (.vec (.int .u8) (varsI L))) := spOf_at (α := (List Int)) _ (fun L L' h => by first | simpa [CP] using h | (simp [CP] at h ⊢; grind)) L
theorem fr_vars : Fresh Tryd.prog E0 49 sp_vars := Fresh.of fun L hG => TF.intro (V := (VV [(57, conT [.any] sp_var)] (.cons (chkFn_callable k_wire_Var) (Fresh.soundT fr_var) GOk.nil) 19 0)) k_moves_vars rfl rfl (by
  dsimp only at hG ⊢
  obtain ⟨hL, hl⟩ := hG
  repeat' first | simp only [SB, E, seval, rdB, ne_eq, implies_true, sp_var_at] | simp only [hw] | refine T.seq ?_ | refine T.stm ?_ | refine T.rg ?_ | refine wpR_o ?_ | refine wpR_g ?_ | refine wpR_e ?_ | refine T.cond ?_ | refine T.skip ?_ | refine T.ret ?_ | refine T.exit ?_ | refine T.block ?_ | refine And.intro ?_ ?_ | (intro hyp0; have hyp := hyp0; (try simp only [HB, ne_eq, reduceCtorEq] at hyp); (try simp only [hyp0]); (try clear hyp0); try (exfalso; omega; done)) | omega
  refine T.loop (fun k : Nat => ⟨[(3, .slice 0 0 1 (varsI (L.take k)).length (varsI (L.take k)).length), (6, .vec (.int .i64) L), (7, .int .i64 L.length), (8, .int .i64 k)], [.seq (.int .u8) (varsI (L.take k))]⟩) (fun k => k ≤ L.length) (fun k => L.length - k) 0 (by omega) (Cos.intro [99] [] rfl (by simp only [SB, E, seval, rdB, ne_eq, implies_true, sp_var_at]; simp [varsI, crs, crsL, emptyB])) (fun k hk => ?_)
  have hvl := varsI_len (L.take k) fun x hx => by have := hL x (List.mem_of_mem_take hx); omega
  rw [List.length_take] at hvl
  by_cases hkl : k < L.length
  · have hx := hL _ (List.mem_of_getElem? (getD_at (d := 0) hkl))
    have h10 := varN_len10 (L.getD k 0).toNat (by omega)
    have hw : IntKind.u64.wrap (L.getD k 0) = L.getD k 0 := w_u64 (by omega)
    have hsn := varsI_snoc hkl
    repeat' first | simp only [SB, E, seval, rdB, ne_eq, implies_true, sp_var_at] | simp only [hw] | refine T.seq ?_ | refine T.stm ?_ | refine T.rg ?_ | refine wpR_o ?_ | refine wpR_g ?_ | refine wpR_e ?_ | refine T.cond ?_ | refine T.skip ?_ | refine T.ret ?_ | refine T.exit ?_ | refine T.block ?_ | refine And.intro ?_ ?_ | (intro hyp0; have hyp := hyp0; (try simp only [HB, ne_eq, reduceCtorEq] at hyp); (try simp only [hyp0]); (try clear hyp0); try (exfalso; omega; done)) | omega
    refine ⟨k + 1, by omega, by omega, Cos.intro [2] [] rfl ?_⟩
    rw [hsn]
    (simp only [SB, E, seval, rdB, ne_eq, implies_true, sp_var_at]; first | done | ((repeat' apply And.intro) <;> first | rfl | omega | (simp; done) | (simp; omega)))
  · have e : L.take k = L := List.take_of_length_le (by omega)
    rw [e]
    repeat' first | simp only [SB, E, seval, rdB, ne_eq, implies_true, sp_var_at] | simp only [hw] | refine T.seq ?_ | refine T.stm ?_ | refine T.rg ?_ | refine wpR_o ?_ | refine wpR_g ?_ | refine wpR_e ?_ | refine T.cond ?_ | refine T.skip ?_ | refine T.ret ?_ | refine T.exit ?_ | refine T.block ?_ | refine Cos.intro [0] [] rfl ?_ | refine And.intro ?_ ?_ | (intro hyp0; have hyp := hyp0; (try simp only [HB, ne_eq, reduceCtorEq] at hyp); (try simp only [hyp0]); (try clear hyp0); try (exfalso; omega; done)) | omega)
noncomputable def sp_rvars : Spec := spOf (α := (List Int)) (fun L => [.vec (.int .i64) L]) fun L => ((∀ x ∈ L, 0 ≤ x ∧ x < 9223372036854775808) ∧ L.length ≤ 100000, .ret (.vec (.int .u8) (varsI L)))
theorem sp_rvars_at (L : List Int) : sp_rvars [.vec (.int .i64) L] = some ((∀ x ∈ L, 0 ≤ x ∧ x < 9223372036854775808) ∧ L.length ≤ 100000, .ret (.vec (.int .u8) (varsI L))) := spOf_at (α := (List Int)) _ (fun L L' h => by first | simpa [CP] using h | (simp [CP] at h ⊢; grind)) L
theorem fr_rvars : Fresh Tryd.prog E0 21 sp_rvars := Fresh.of fun L hG => TF.intro (V := (VV [(51, conT [.any] sp_rvar)] (.cons (chkFn_callable k_r01_Var) (Fresh.soundT fr_rvar) GOk.nil) 21 0)) k_r18_vars rfl rfl (by
  dsimp only at hG ⊢
  obtain ⟨hL, hl⟩ := hG
  repeat' first | simp only [SB, E, seval, rdB, ne_eq, implies_true, sp_rvar_at] | simp only [hw] | refine T.seq ?_ | refine T.stm ?_ | refine T.rg ?_ | refine wpR_o ?_ | refine wpR_g ?_ | refine wpR_e ?_ | refine T.cond ?_ | refine T.skip ?_ | refine T.ret ?_ | refine T.exit ?_ | refine T.block ?_ | refine And.intro ?_ ?_ | (intro hyp0; have hyp := hyp0; (try simp only [HB, ne_eq, reduceCtorEq] at hyp); (try simp only [hyp0]); (try clear hyp0); try (exfalso; omega; done)) | omega
  refine T.loop (fun k : Nat => ⟨[(0, .vec (.int .i64) L), (3, .slice 0 0 1 (varsI (L.take k)).length (varsI (L.take k)).length), (7, .int .i64 L.length), (8, .int .i64 k)], [.seq (.int .u8) (varsI (L.take k))]⟩) (fun k => k ≤ L.length) (fun k => L.length - k) 0 (by omega) (Cos.intro [0] [] rfl (by simp only [SB, E, seval, rdB, ne_eq, implies_true, sp_rvar_at]; simp [varsI])) (fun k hk => ?_)
  have hvl := varsI_len (L.take k) fun x hx => by have := hL x (List.mem_of_mem_take hx); omega
  rw [List.length_take] at hvl
  by_cases hkl : k < L.length
  · have hx := hL _ (List.mem_of_getElem? (getD_at (d := 0) hkl))
    have h10 := varN_len10 (L.getD k 0).toNat (by omega)
    have hw : IntKind.u64.wrap (L.getD k 0) = L.getD k 0 := w_u64 (by omega)
    have hsn := varsI_snoc hkl
    repeat' first | simp only [SB, E, seval, rdB, ne_eq, implies_true, sp_rvar_at] | simp only [hw] | refine T.seq ?_ | refine T.stm ?_ | refine T.rg ?_ | refine wpR_o ?_ | refine wpR_g ?_ | refine wpR_e ?_ | refine T.cond ?_ | refine T.skip ?_ | refine T.ret ?_ | refine T.exit ?_ | refine T.block ?_ | refine And.intro ?_ ?_ | (intro hyp0; have hyp := hyp0; (try simp only [HB, ne_eq, reduceCtorEq] at hyp); (try simp only [hyp0]); (try clear hyp0); try (exfalso; omega; done)) | omega
    refine ⟨k + 1, by omega, by omega, Cos.intro [2] [] rfl ?_⟩
    rw [hsn]
    (simp only [SB, E, seval, rdB, ne_eq, implies_true, sp_rvar_at]; first | done | ((repeat' apply And.intro) <;> first | rfl | omega | (simp; done) | (simp; omega)))
  · have e : L.take k = L := List.take_of_length_le (by omega)
    rw [e]
    repeat' first | simp only [SB, E, seval, rdB, ne_eq, implies_true, sp_rvar_at] | simp only [hw] | refine T.seq ?_ | refine T.stm ?_ | refine T.rg ?_ | refine wpR_o ?_ | refine wpR_g ?_ | refine wpR_e ?_ | refine T.cond ?_ | refine T.skip ?_ | refine T.ret ?_ | refine T.exit ?_ | refine T.block ?_ | refine Cos.intro [0] [] rfl ?_ | refine And.intro ?_ ?_ | (intro hyp0; have hyp := hyp0; (try simp only [HB, ne_eq, reduceCtorEq] at hyp); (try simp only [hyp0]); (try clear hyp0); try (exfalso; omega; done)) | omega)
noncomputable def sp_put : Spec := spOf (α := Int × (List Int)) (fun ⟨b, L⟩ => [.int .u8 b, .vec (.int .i64) L]) fun ⟨b, L⟩ => ((∀ x ∈ L, 0 ≤ x ∧ x < 9223372036854775808) ∧ L.length ≤ 100000, .ret (.vec (.int .u8) (b :: varsI L)))
theorem sp_put_at (b : Int) (L : List Int) : sp_put [.int .u8 b, .vec (.int .i64) L] = some ((∀ x ∈ L, 0 ≤ x ∧ x < 9223372036854775808) ∧ L.length ≤ 100000, .ret (.vec (.int .u8) (b :: varsI L))) := spOf_at (α := Int × (List Int)) _ (fun ⟨b, L⟩ ⟨b', L'⟩ h => by first | simpa [CP] using h | (simp [CP] at h ⊢; grind)) (b, L)
theorem fr_put : Fresh Tryd.prog E0 19 sp_put := Fresh.of fun ⟨b, L⟩ hG => TF.intro (V := (VV [(49, conT [.sl (.int .i64)] sp_vars)] (.cons (chkFn_callable k_moves_vars) (Fresh.soundT fr_vars) GOk.nil) 10 0)) k_moves_put rfl rfl (by
  dsimp only at hG ⊢
  obtain ⟨hL, hl⟩ := hG
  have hvl := varsI_len L fun x hx => by have := hL x hx; omega
  repeat' first | exact hL | simp only [SB, E, seval, rdB, ne_eq, implies_true, sp_vars_at] | refine T.seq ?_ | refine T.stm ?_ | refine T.rg ?_ | refine wpR_o ?_ | refine wpR_g ?_ | refine wpR_e ?_ | refine T.cond ?_ | refine T.skip ?_ | refine T.ret ?_ | refine T.exit ?_ | refine T.block ?_ | refine And.intro ?_ ?_ | (intro hyp0; have hyp := hyp0; (try simp only [HB, ne_eq, reduceCtorEq] at hyp); (try simp only [hyp0]); (try clear hyp0); try (exfalso; omega; done)) | omega
  exact Cos.intro [2] [] rfl (by (simp only [SB, E, seval, rdB, ne_eq, implies_true, sp_vars_at]; first | done | ((repeat' apply And.intro) <;> first | rfl | omega | (simp; done) | (simp; omega)))))
noncomputable def sp_text : Spec := spOf (α := (List Int)) (fun L => [.vec (.int .u8) L]) fun L => (L.length ≤ 4096, .ret (.tup [.vec (.int .u8) (textN L), .int .i64 0]))
theorem sp_text_at (L : List Int) : sp_text [.vec (.int .u8) L] = some (L.length ≤ 4096, .ret (.tup [.vec (.int .u8) (textN L), .int .i64 0])) := spOf_at (α := (List Int)) _ (fun L L' h => by first | simpa [CP] using h | (simp [CP] at h ⊢; grind)) L
theorem fr_text : Fresh Tryd.prog E0 28 sp_text := Fresh.of fun L hG => TF.intro (V := (VV [(57, conT [.any] sp_var)] (.cons (chkFn_callable k_wire_Var) (Fresh.soundT fr_var) GOk.nil) 13 0)) k_wire_Text rfl rfl (by
  dsimp only at hG ⊢
  have hw : IntKind.u64.wrap L.length = L.length := w_u64 (by omega)
  have h10 := varN_len10 L.length (by omega)
  repeat' first | simp only [SB, E, seval, rdB, ne_eq, implies_true, sp_var_at] | simp only [hw] | refine T.seq ?_ | refine T.stm ?_ | refine T.rg ?_ | refine wpR_o ?_ | refine wpR_g ?_ | refine wpR_e ?_ | refine T.cond ?_ | refine T.skip ?_ | refine T.ret ?_ | refine T.exit ?_ | refine T.block ?_ | refine And.intro ?_ ?_ | (intro hyp0; have hyp := hyp0; (try simp only [HB, ne_eq, reduceCtorEq] at hyp); (try simp only [hyp0]); (try clear hyp0); try (exfalso; omega; done)) | omega
  refine Cos.intro [1] [] rfl ?_
  simp only [textN]
  (simp only [SB, E, seval, rdB, ne_eq, implies_true, sp_var_at]; first | done | ((repeat' apply And.intro) <;> first | rfl | omega | (simp; done) | (simp; omega))))
noncomputable def sp_rtext : Spec := spOf (α := (List Int)) (fun L => [.vec (.int .u8) L]) fun L => (L.length ≤ 4096, .ret (.tup [.vec (.int .u8) (textN L), .int .i64 0]))
theorem sp_rtext_at (L : List Int) : sp_rtext [.vec (.int .u8) L] = some (L.length ≤ 4096, .ret (.tup [.vec (.int .u8) (textN L), .int .i64 0])) := spOf_at (α := (List Int)) _ (fun L L' h => by first | simpa [CP] using h | (simp [CP] at h ⊢; grind)) L
theorem fr_rtext : Fresh Tryd.prog E0 40 sp_rtext := Fresh.of fun L hG => TF.intro (V := (VV [(51, conT [.any] sp_rvar)] (.cons (chkFn_callable k_r01_Var) (Fresh.soundT fr_rvar) GOk.nil) 13 0)) k_r01_Text rfl rfl (by
  dsimp only at hG ⊢
  have hw : IntKind.u64.wrap L.length = L.length := w_u64 (by omega)
  have h10 := varN_len10 L.length (by omega)
  repeat' first | simp only [SB, E, seval, rdB, ne_eq, implies_true, sp_rvar_at] | simp only [hw] | refine T.seq ?_ | refine T.stm ?_ | refine T.rg ?_ | refine wpR_o ?_ | refine wpR_g ?_ | refine wpR_e ?_ | refine T.cond ?_ | refine T.skip ?_ | refine T.ret ?_ | refine T.exit ?_ | refine T.block ?_ | refine And.intro ?_ ?_ | (intro hyp0; have hyp := hyp0; (try simp only [HB, ne_eq, reduceCtorEq] at hyp); (try simp only [hyp0]); (try clear hyp0); try (exfalso; omega; done)) | omega
  refine Cos.intro [1] [] rfl ?_
  simp only [textN]
  (simp only [SB, E, seval, rdB, ne_eq, implies_true, sp_rvar_at]; first | done | ((repeat' apply And.intro) <;> first | rfl | omega | (simp; done) | (simp; omega))))
noncomputable def sp_bsame : Spec := spOf (α := (List Int) × (List Int)) (fun ⟨L, M⟩ => [.vec (.int .u8) L, .vec (.int .u8) M]) fun ⟨L, M⟩ => (L.length ≤ 4611686018427387904 ∧ M.length ≤ 4611686018427387904, .ret (.bool (decide (L = M))))
theorem sp_bsame_at (L : List Int) (M : List Int) : sp_bsame [.vec (.int .u8) L, .vec (.int .u8) M] = some (L.length ≤ 4611686018427387904 ∧ M.length ≤ 4611686018427387904, .ret (.bool (decide (L = M)))) := spOf_at (α := (List Int) × (List Int)) _ (fun ⟨L, M⟩ ⟨L', M'⟩ h => by first | simpa [CP] using h | (simp [CP] at h ⊢; grind)) (L, M)
theorem al_bsame : Alias Tryd.prog E0 11 sp_bsame := Alias.of fun ⟨L, M⟩ hG => TF.intro (V := (VV [] GOk.nil 26 0)) k_r01_Same rfl rfl (by
  dsimp only at hG ⊢
  repeat' first | simp only [SB, E, seval, rdB, ne_eq, implies_true] | refine T.seq ?_ | refine T.stm ?_ | refine T.rg ?_ | refine wpR_o ?_ | refine wpR_g ?_ | refine wpR_e ?_ | refine T.cond ?_ | refine T.skip ?_ | refine T.ret ?_ | refine T.exit ?_ | refine T.block ?_ | refine Cos.intro [] [] rfl ?_ | refine And.intro ?_ ?_ | (intro hyp0; have hyp := hyp0; (try simp only [HB, ne_eq, reduceCtorEq] at hyp); (try simp only [hyp0]); (try clear hyp0); try (exfalso; omega; done)) | omega
  · exact (decide_eq_false fun e => by subst e; omega).symm
  · refine T.loop (fun k : Nat => ⟨[(0, .vec (.int .u8) L), (1, .vec (.int .u8) M), (12, .int .i64 L.length), (13, .int .i64 k)], []⟩) (fun k => k ≤ L.length ∧ ∀ j, j < k → L[j]? = M[j]?) (fun k => L.length - k) 0 ⟨by omega, fun j hj => by omega⟩ (Cos.intro [] [] rfl (by (simp only [SB, E, seval, rdB, ne_eq, implies_true]); first | done | (repeat' apply And.intro) <;> first | rfl | omega | simp)) (fun k ⟨hk, hall⟩ => ?_)
    repeat' first | simp only [SB, E, seval, rdB, ne_eq, implies_true] | refine T.seq ?_ | refine T.stm ?_ | refine T.rg ?_ | refine wpR_o ?_ | refine wpR_g ?_ | refine wpR_e ?_ | refine T.cond ?_ | refine T.skip ?_ | refine T.ret ?_ | refine T.exit ?_ | refine T.block ?_ | refine Cos.intro [] [] rfl ?_ | exact ⟨k + 1, ⟨by omega, same_step (by omega) (by omega) hyp hall⟩, by omega, (Cos.intro [] [] rfl (by (simp only [SB, E, seval, rdB, ne_eq, implies_true]); first | done | (repeat' apply And.intro) <;> first | rfl | omega | simp))⟩ | refine And.intro ?_ ?_ | (intro hyp0; have hyp := hyp0; (try simp only [HB, ne_eq, reduceCtorEq] at hyp); (try simp only [hyp0]); (try clear hyp0); try (exfalso; omega; done)) | omega
    · exact (decide_eq_false fun e => by subst e; exact hyp rfl).symm
    · exact (decide_eq_true (same_end (by omega) (by omega) hall)).symm)
theorem fr_bsame : Fresh Tryd.prog E0 11 sp_bsame := Alias.fresh al_bsame (fun x => rfl)
end
end Go.Proofs.YtcfkfgkndncanaaDoor
