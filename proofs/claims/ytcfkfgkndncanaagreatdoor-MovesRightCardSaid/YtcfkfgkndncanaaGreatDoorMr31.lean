/- Texts of this claim, merged by a program of this claim: FDif. -/
import Derived.Test.YtcfkfgkndncanaaGreatDoorMr25
import Derived.Test.YtcfkfgkndncanaaGreatDoorMr26
import Derived.Test.YtcfkfgkndncanaaGreatDoorMr30
namespace Go.Proofs.YtcfkfgkndncanaaGreatDoor
set_option linter.unusedVariables false
set_option linter.unusedSimpArgs false
section
open Go.RowKit
set_option maxRecDepth 100000
set_option maxHeartbeats 4000000
theorem jmQ (f : CD → CD) {L : List CD} {i : Nat} (h : i < L.length) : (half f L i).getD i default = L.getD i default := by
  rw [List.getD_eq_getElem?_getD, jkc f (cdAt_eq h)]
  rfl
theorem jmR {f : CD → CD} {L : List CD} {i : Nat} (h : i < L.length) (e : f (L.getD i default) = L.getD i default) : half f L (i + 1) = half f L i := by
  rw [← jkd f (cdAt_eq h), e]
  have hl : i < (half f L i).length := by rw [jkb]; exact h
  have := jkc f (cdAt_eq h)
  rw [List.getElem?_eq_getElem hl] at this
  rw [← Option.some.inj this, List.set_getElem_self]
noncomputable def sp_under : Spec := spOf (α := Int × Int × (List CD) × Int × Int × Bool × Int × ByteArray × (List ByteArray) × (List ByteArray)) (fun ⟨k, r, L, x, y, hd, mo, ti, bl, links⟩ => [.agg [.int .i64 k, .int .i64 r, .vec .cell L, .int .i64 x, .int .i64 y, .bool hd, .int .u8 mo, .str ti, .vec .str bl], .vec .str links]) fun ⟨k, r, L, x, y, hd, mo, ti, bl, links⟩ => (L.length ≤ 60000 ∧ bl.length ≤ 60000 ∧ links.length ≤ 60000 ∧ (∀ c ∈ L, CWf c) ∧ (∀ c ∈ L, c.link ≤ bl.length), .ret (.vec .cell (L.map (ulf bl links))))
theorem jbr (k : Int) (r : Int) (L : List CD) (x : Int) (y : Int) (hd : Bool) (mo : Int) (ti : ByteArray) (bl : List ByteArray) (links : List ByteArray) : sp_under [.agg [.int .i64 k, .int .i64 r, .vec .cell L, .int .i64 x, .int .i64 y, .bool hd, .int .u8 mo, .str ti, .vec .str bl], .vec .str links] = some (L.length ≤ 60000 ∧ bl.length ≤ 60000 ∧ links.length ≤ 60000 ∧ (∀ c ∈ L, CWf c) ∧ (∀ c ∈ L, c.link ≤ bl.length), .ret (.vec .cell (L.map (ulf bl links)))) := jav (α := Int × Int × (List CD) × Int × Int × Bool × Int × ByteArray × (List ByteArray) × (List ByteArray)) _ (fun ⟨k, r, L, x, y, hd, mo, ti, bl, links⟩ ⟨k', r', L', x', y', hd', mo', ti', bl', links'⟩ h => by first | simpa [CP] using h | (simp [CP] at h ⊢; grind)) (k, r, L, x, y, hd, mo, ti, bl, links)
theorem joi : Fresh Tryz.prog E0 85 sp_under := Fresh.of fun ⟨k, r, L, x, y, hd, mo, ti, bl, links⟩ hG => TF.intro (V := (VV [(24, conT [.sl .cell] sp_clone), (114, conF [.sl .str, .any] sp_sindex)] (.cons (chkFn_callable k_slices_Clone_Cell) (Fresh.soundT jeM) (.cons (chkFn_callable k_slices_Index_string) (Fresh.soundF jgx) GOk.nil)) 41 0)) k_moves_under rfl rfl (by
  dsimp only at hG ⊢
  obtain ⟨hL, hb, hl, hc, hle⟩ := hG
  repeat' first | simp only [SB, E, seval, rdB, ne_eq, implies_true, jah, jaP] | simp only [hw] | simp only [hw2] | simp only [hw3] | refine T.seq ?_ | refine T.stm ?_ | refine T.rg ?_ | refine jac ?_ | refine jad ?_ | refine jae ?_ | refine T.cond ?_ | refine T.skip ?_ | refine T.ret ?_ | refine T.exit ?_ | refine T.block ?_ | refine Cos.intro [1] [] rfl ?_ | refine And.intro ?_ ?_ | (intro hyp0; have hyp := hyp0; (try simp only [HB, ne_eq, reduceCtorEq] at hyp); (try simp only [hyp0]); (try clear hyp0); try (exfalso; omega; done)) | omega
  refine T.loop (fun i : Nat => ⟨[(1, .vec .str links), (2, .ptr 0 0 0), (5, .slice 1 0 6 L.length L.length), (12, .int .i64 L.length), (13, .int .i64 i)], [.box [.int .i64 k, .int .i64 r, .vec .cell L, .int .i64 x, .int .i64 y, .bool hd, .int .u8 mo, .str ti, .vec .str bl], .seq .cell (half (ulf bl links) L i)]⟩) (fun i => i ≤ L.length) (fun i => L.length - i) 0 (by omega) (Cos.intro [0, 1] [] rfl (by simp only [SB, E, seval, rdB, ne_eq, implies_true, jah, jaP]; simp [half])) (fun i hi => ?_)
  have hhl := jkb (ulf bl links) L i
  by_cases hil : i < L.length
  · have hlk := (hc _ (jcO hil)).link
    have hlb := hle _ (jcO hil)
    have hw := jmQ (ulf bl links) hil
    have hst := jkd (ulf bl links) (cdAt_eq hil)
    by_cases h0 : 0 < (L.getD i default).link
    · have hpl := jcL links (bl.getD ((L.getD i default).link - 1).toNat ETy.str.dflt)
      have hu : ulf bl links (L.getD i default) = { L.getD i default with link := jaG links (bl.getD ((L.getD i default).link - 1).toNat ETy.str.dflt) + 1 } := if_pos h0
      rw [hu] at hst
      have hw2 : IntKind.u16.wrap ((L.getD i default).link - 1) = (L.getD i default).link - 1 := ji0 (by omega)
      have hw3 : IntKind.u16.wrap (jaG links (bl.getD ((L.getD i default).link - 1).toNat ETy.str.dflt) + 1) = jaG links (bl.getD ((L.getD i default).link - 1).toNat ETy.str.dflt) + 1 := ji0 (by omega)
      repeat' first | simp only [SB, E, seval, rdB, ne_eq, implies_true, jah, jaP] | simp only [hw] | simp only [hw2] | simp only [hw3] | refine T.seq ?_ | refine T.stm ?_ | refine T.rg ?_ | refine jac ?_ | refine jad ?_ | refine jae ?_ | refine T.cond ?_ | refine T.skip ?_ | refine T.ret ?_ | refine T.exit ?_ | refine T.block ?_ | refine And.intro ?_ ?_ | (intro hyp0; have hyp := hyp0; (try simp only [HB, ne_eq, reduceCtorEq] at hyp); (try simp only [hyp0]); (try clear hyp0); try (exfalso; omega; done)) | omega
      exact ⟨i + 1, by omega, by omega, Cos.intro [0, 1] [] rfl (by rw [← hst]; (simp only [SB, E, seval, rdB, ne_eq, implies_true, jah, jaP]; first | done | ((repeat' apply And.intro) <;> first | rfl | omega | (simp; done) | (simp; omega))))⟩
    · have hu : ulf bl links (L.getD i default) = L.getD i default := if_neg h0
      have hsk := jmR (f := ulf bl links) hil hu
      repeat' first | simp only [SB, E, seval, rdB, ne_eq, implies_true, jah, jaP] | simp only [hw] | simp only [hw2] | simp only [hw3] | refine T.seq ?_ | refine T.stm ?_ | refine T.rg ?_ | refine jac ?_ | refine jad ?_ | refine jae ?_ | refine T.cond ?_ | refine T.skip ?_ | refine T.ret ?_ | refine T.exit ?_ | refine T.block ?_ | refine And.intro ?_ ?_ | (intro hyp0; have hyp := hyp0; (try simp only [HB, ne_eq, reduceCtorEq] at hyp); (try simp only [hyp0]); (try clear hyp0); try (exfalso; omega; done)) | omega
      exact ⟨i + 1, by omega, by omega, Cos.intro [0, 1] [] rfl (by rw [hsk]; (simp only [SB, E, seval, rdB, ne_eq, implies_true, jah, jaP]; first | done | ((repeat' apply And.intro) <;> first | rfl | omega | (simp; done) | (simp; omega))))⟩
  · have e : half (ulf bl links) L i = L.map (ulf bl links) := jn7 _ _ _ (by omega)
    rw [e]
    have hlm : (L.map (ulf bl links)).length = L.length := by simp
    repeat' first | simp only [SB, E, seval, rdB, ne_eq, implies_true, jah, jaP] | simp only [hw] | simp only [hw2] | simp only [hw3] | refine T.seq ?_ | refine T.stm ?_ | refine T.rg ?_ | refine jac ?_ | refine jad ?_ | refine jae ?_ | refine T.cond ?_ | refine T.skip ?_ | refine T.ret ?_ | refine T.exit ?_ | refine T.block ?_ | refine Cos.intro [1] [] rfl ?_ | refine And.intro ?_ ?_ | (intro hyp0; have hyp := hyp0; (try simp only [HB, ne_eq, reduceCtorEq] at hyp); (try simp only [hyp0]); (try clear hyp0); try (exfalso; omega; done)) | omega)
end
end Go.Proofs.YtcfkfgkndncanaaGreatDoor
