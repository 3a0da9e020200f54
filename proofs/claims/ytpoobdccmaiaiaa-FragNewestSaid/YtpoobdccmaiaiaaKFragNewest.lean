/- FragNewest: whatever the input, the law's function answers true, and its arguments read as they did. No condition but the given row's own. -/
import Derived.Test.YtpoobdccmaiaiaaFrTied
import Derived.Test.YtpoobdccmaiaiaaFrNewest
import Derived.Test.YtpoobdccmaiaiaaKFragBack
namespace Go.Proofs.Ytpoobdccmaiaiaa
open Go.ChangeShapes Go.WideShapes Go.ChangeAt Go.RowKit
set_option linter.unusedVariables false
set_option linter.unusedSimpArgs false
open Frag
theorem newest_row (W : World) (C : Option Addr) (m d : Nat) (M : List (PV × Value)) (em : m = M.length) (mb : m ≤ 9223372036854775807) (pr : PartsR W C M) (pi : ∀ q ∈ M, PartIn W q.1 q.2) (id : Int) (hid : 0 ≤ id ∧ id < 4294967296) (a : Option Addr) (len cap : Nat) (zs : List Int) (x : IsRow .u8 W a len cap zs) (s : len * Try.prog.bytesOf 5 ≤ reachBytes)
    (late : PV) (B : Option Addr) (c : Nat) (pl : PartIn W late (.slice B late.bs.length c)) :
    Calls Try.prog 6 #[.slice C m d, .int .u32 id, .slice a len cap, partV late B late.bs.length c] W fun e w' => e = .returned (.bool true) ∧ Below W.heap.size W w' := by
  obtain ⟨B', c', e, hr, hl⟩ := pl.bytes
  injection e with e1 _ e2
  subst e1 e2
  exact newest_any C m d M id a len cap zs late B c W em mb pr (fun q hq => by obtain ⟨_, _, _, _, h⟩ := (pi q hq).bytes; exact h) x.leneq x.le (bytes_reach s) x.read hl hr

namespace fragNewestL
/-- What the walk gives, for every argument in every world. -/
theorem contract (H : Type) (enc : TypeId × Value → H) (W : World) (base : Nat) (args : Array Value) (ds gs : List (DataW H)) (before : List MemPlace)
    (hval : ∀ (j : Nat) t v, Try.f6.params[j]? = some t → args[j]? = some v → Value.okWide Try.prog W .any base t v)
    (hW : DataW.Whole enc Try.prog Try.f6.params.toList Rows.fragNewestSpec.vars false W args.toList ds gs before)
    (hwt : (DataW.weightsEach Try.prog (Try.f6.params.toList ++ (OpenSpec.ofChange Rows.fragNewestSpec).bare.plain.varTypes Try.prog) (ds ++ gs)).all (· ≤ reachBytes) = true) :
    Calls Try.prog 6 args W fun e W' => ∃ v, e = .returned v ∧ Rows.fragNewestSpec.post enc Try.prog Try.f6 false true false false W args v W' := by
  have hW' := hW
  obtain ⟨p, q, hA0, hV, rfl, hfz, hnd⟩ := hW
  have hA : DataW.TrodAll enc Try.prog W 0 (fun _ => true) true Try.f6.params.toList args.toList ds p := hA0
  rw [Try.params6] at hA hval
  obtain ⟨v0, vs0, d0, ds0, p0, q0, hargs, rfl, rfl, h0, r0⟩ := trodAll_cons hA
  obtain ⟨v1, vs1, d1, ds1, p1, q1, rfl, rfl, rfl, h1, r1⟩ := trodAll_cons r0
  obtain ⟨v2, vs2, d2, ds2, p2, q2, rfl, rfl, rfl, h2, r2⟩ := trodAll_cons r1
  obtain ⟨v3, vs3, d3, ds3, p3, q3, rfl, rfl, rfl, h3, r3⟩ := trodAll_cons r2
  obtain ⟨rfl, rfl, rfl⟩ := trodAll_nil r3
  obtain rfl : args = #[v0, v1, v2, v3] := by cases args; simp_all
  obtain ⟨rfl, rfl⟩ := trodVars_none hV
  have k0 := h0
  have lt0 : ∀ x ∈ p0, x.block < W.heap.size := by obtain ⟨m, hm⟩ := k0; exact DataW.trod_lt m _ _ _ hm
  obtain ⟨A0, n0, c0, L0, rfl, en0, nb0, pr0, pi0⟩ := parts_open (hval 0 26 v0 rfl rfl) h0
  obtain ⟨a1, rfl, rfl, rfl, w1⟩ := open_int Try.underlying22 (hval 1 22 v1 rfl rfl) h1
  have k2 := h2
  have lt2 : ∀ x ∈ p2, x.block < W.heap.size := by obtain ⟨m, hm⟩ := k2; exact DataW.trod_lt m _ _ _ hm
  obtain ⟨a2, len2, cap2, rfl⟩ := okWide_slice Try.underlying23 (hval 2 23 v2 rfl rfl)
  obtain ⟨z2, x2⟩ : ∃ zs, IsRow .u8 W a2 len2 cap2 zs := by
    obtain ⟨fuel, hf⟩ := h2
    obtain ⟨a, l, c, zs, e, hr⟩ := ints_open Try.underlying23 Try.underlying5 (by kernel_rfl) hf
    simp [Value.cells] at e
    obtain ⟨rfl, rfl, rfl⟩ := e
    exact ⟨zs, hr⟩
  have s2 : len2 * Try.prog.bytesOf 5 ≤ reachBytes := by
    obtain ⟨fuel, hf⟩ := k2
    rcases open_ints Try.underlying23 Try.underlying5 (by kernel_rfl) hf with ⟨hcs, _⟩ | ⟨x, l, c, zs, hcs, _, hl, hm, hz, hd, _⟩
    · simp [Value.cells] at hcs
      rw [hcs.2.1, Nat.zero_mul]
      exact Nat.zero_le _
    · simp [Value.cells] at hcs
      simp only [Prod.mk.injEq] at hd
      obtain ⟨el, sp, hd1, hll⟩ : ∃ el sp, d2 = .slice el sp ∧ l ≤ el.length + sp.length := ⟨lits .u8 (zs.take l), lits .u8 (zs.drop l), hd.1, by have hz2 : zs.length = c := (by simpa using hz); simp [lits]; omega⟩
      have := sized_slice hwt (j := 2) (elems := el) (spare := sp) rfl (by rw [hd1]; rfl) Try.underlying23
      refine Nat.le_trans (Nat.mul_le_mul_right _ ?_) this
      rw [hcs.2.1]
      exact hll
  have k3 := h3
  have lt3 : ∀ x ∈ p3, x.block < W.heap.size := by obtain ⟨m, hm⟩ := k3; exact DataW.trod_lt m _ _ _ hm
  obtain ⟨q3, B3, c3, rfl, pi3⟩ := part_open (hval 3 34 v3 rfl rfl) h3
  clear hA0
  simp only [List.append_nil] at hW'
  refine (newest_row W A0 n0 c0 L0 en0 nb0 pr0 pi0 a1 (u32_of_wf w1) a2 len2 cap2 z2 x2 s2 q3 B3 c3 pi3).mono fun e W' ⟨he, bel⟩ => ?_
  subst he
  exact ⟨_, rfl, _, _, _, [], _, [], hW', trodAll_mk1 (shut_bool Try.underlying4 _), (trodAll_cons_mk (Below.trod laidOut (by kernel_rfl) (of_decide_eq_true (by kernel_rfl)) k0 bel lt0) (trodAll_cons_mk (shut_int Try.underlying22 w1) (trodAll_cons_mk (Below.trod laidOut (by kernel_rfl) (of_decide_eq_true (by kernel_rfl)) k2 bel lt2) (trodAll_cons_mk (Below.trod laidOut (by kernel_rfl) (of_decide_eq_true (by kernel_rfl)) k3 bel lt3) trodAll_mk0)))), rfl, bel.frame _, fun h => by cases h⟩
theorem reads (os : Os) {H : Type} (enc : TypeId × Value → H) : ∃ places, DataW.whole enc Try.prog ((heldWorld os).forCall (fun _ _ => 0) ⟨#[], #[.slice none 0 0, .int .u32 0, .slice none 0 0, .agg #[.int .u32 0, .int .i64 0, .int .i64 0, .slice none 0 0]], []⟩).memory Try.f6.params.toList Rows.fragNewestSpec.vars false #[(show Value from .slice none 0 0), Value.int .u32 0, Value.slice none 0 0, (show Value from .agg #[.int .u32 0, .int .i64 0, .int .i64 0, .slice none 0 0])].toList 8 = some ([.nil, .lit (.int .u32 0), .nil, .agg [.lit (.int .u32 0), .lit (.int .i64 0), .lit (.int .i64 0), .nil]], [], places) :=
  ⟨[], by kernel_rfl⟩

set_option maxRecDepth 100000 in
theorem lifted (os : Os) (started : os.Started) (H : Type) (enc : TypeId × Value → H) (F : Stop.Interp) :
    ReturnsInHanded {} Try.checked os 6 .any ((OpenSpec.ofChange Rows.fragNewestSpec).preRow enc Try.prog Try.f6 Rows.fragNewestRow.domain false Rows.fragNewestRow.laid) (((OpenSpec.ofChange Rows.fragNewestSpec).at F).post enc Try.prog Try.f6 false true false false) := by
  obtain ⟨places, hx⟩ := reads os enc
  refine returnsInHanded_of_row (C := Try.checked) (s := OpenSpec.ofChange Rows.fragNewestSpec) own started (by kernel_rfl) Try.func6
    (witness_row_at (enc := enc) (C := Try.checked) false (heldWorld os) #[.slice none 0 0, .int .u32 0, .slice none 0 0, .agg #[.int .u32 0, .int .i64 0, .int .i64 0, .slice none 0 0]] rfl (by kernel_rfl) (by kernel_rfl) (by kernel_rfl)
      (OpenSpec.preRow_of_cond 8 hx (by kernel_rfl) (fun k hk => by cases hk) (by kernel_rfl) (laidMet_of_run' 8 (by kernel_rfl) (by kernel_rfl)))) ?_
  intro W base args ds gs before hval hW _ _ hwt _ _ _
  exact contract H enc W base args ds gs before hval hW hwt

theorem said : Rows.FragNewestSaid :=
  OpenClaim.holds_of_cond 6 Try.f6 rfl rfl rfl rfl rfl rfl rfl ⟨rfl, rfl, rfl, rfl, rfl⟩ rfl rfl rfl rfl rfl (by kernel_rfl) Try.func6 (by kernel_rfl)
    (of_decide_eq_true (by kernel_rfl)) (by unfold Func.isWrapper; first | (rw [if_pos (by decide +kernel)]; kernel_rfl) | (rw [if_neg (by decide +kernel)]; exact ⟨rfl, rfl⟩))
    (fun os started H enc _ F => by rw [OpenClaim.pre_eq_preRow]; exact lifted os started H enc F)
#print axioms said
end fragNewestL
end Go.Proofs.Ytpoobdccmaiaiaa
