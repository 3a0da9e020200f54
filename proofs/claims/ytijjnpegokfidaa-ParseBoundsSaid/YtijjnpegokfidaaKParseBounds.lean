/- ParseBounds: whatever the input, the law's function answers true, and its arguments read as they did. No condition but the given row's own. -/
import Derived.Test.YtijjnpegokfidaaPaTied
import Derived.Test.YtijjnpegokfidaaPaBounds
namespace Go.Proofs.Ytijjnpegokfidaa
open Go.ChangeShapes Go.WideShapes Go.ChangeAt Go.RowKit
set_option linter.unusedVariables false
set_option linter.unusedSimpArgs false
theorem bytes_reach {len : Nat} (h : len * Try.prog.bytesOf 5 ≤ reachBytes) : len ≤ 9000000000000000000 := by
  have h1 : Try.prog.bytesOf 5 = 1 := by kernel_rfl
  have h2 := reachBytes_lt
  rw [h1] at h
  omega
theorem bounds_row (W : World) (a : Option Addr) (len cap : Nat) (zs : List Int) (x : IsRow .u8 W a len cap zs) (s : len * Try.prog.bytesOf 5 ≤ reachBytes) :
    Calls Try.prog 4 #[.slice a len cap] W fun e w' => e = .returned (.bool true) ∧ Below W.heap.size W w' :=
  pbounds_any a len cap zs W x.leneq (bytes_reach s) x.read (fun y hy => u8_of_wf (x.wf y hy))

namespace parseBoundsL
/-- What the walk gives, for every argument in every world. -/
theorem contract (H : Type) (enc : TypeId × Value → H) (W : World) (base : Nat) (args : Array Value) (ds gs : List (DataW H)) (before : List MemPlace)
    (hval : ∀ (j : Nat) t v, Try.f4.params[j]? = some t → args[j]? = some v → Value.okWide Try.prog W .any base t v)
    (hW : DataW.Whole enc Try.prog Try.f4.params.toList Rows.parseBoundsSpec.vars false W args.toList ds gs before)
    (hwt : (DataW.weightsEach Try.prog (Try.f4.params.toList ++ (OpenSpec.ofChange Rows.parseBoundsSpec).bare.plain.varTypes Try.prog) (ds ++ gs)).all (· ≤ reachBytes) = true) :
    Calls Try.prog 4 args W fun e W' => ∃ v, e = .returned v ∧ Rows.parseBoundsSpec.post enc Try.prog Try.f4 false true false false W args v W' := by
  have hW' := hW
  obtain ⟨p, q, hA0, hV, rfl, hfz, hnd⟩ := hW
  have hA : DataW.TrodAll enc Try.prog W 0 (fun _ => true) true Try.f4.params.toList args.toList ds p := hA0
  rw [Try.params4] at hA hval
  obtain ⟨v0, vs0, d0, ds0, p0, q0, hargs, rfl, rfl, h0, r0⟩ := trodAll_cons hA
  obtain ⟨rfl, rfl, rfl⟩ := trodAll_nil r0
  obtain rfl : args = #[v0] := by cases args; simp_all
  obtain ⟨rfl, rfl⟩ := trodVars_none hV
  have k0 := h0
  have lt0 : ∀ x ∈ p0, x.block < W.heap.size := by obtain ⟨m, hm⟩ := k0; exact DataW.trod_lt m _ _ _ hm
  obtain ⟨a0, len0, cap0, rfl⟩ := okWide_slice Try.underlying22 (hval 0 22 v0 rfl rfl)
  obtain ⟨z0, x0⟩ : ∃ zs, IsRow .u8 W a0 len0 cap0 zs := by
    obtain ⟨fuel, hf⟩ := h0
    obtain ⟨a, l, c, zs, e, hr⟩ := ints_open Try.underlying22 Try.underlying5 (by kernel_rfl) hf
    simp [Value.cells] at e
    obtain ⟨rfl, rfl, rfl⟩ := e
    exact ⟨zs, hr⟩
  have s0 : len0 * Try.prog.bytesOf 5 ≤ reachBytes := by
    obtain ⟨fuel, hf⟩ := k0
    rcases open_ints Try.underlying22 Try.underlying5 (by kernel_rfl) hf with ⟨hcs, _⟩ | ⟨x, l, c, zs, hcs, _, hl, hm, hz, hd, _⟩
    · simp [Value.cells] at hcs
      rw [hcs.2.1, Nat.zero_mul]
      exact Nat.zero_le _
    · simp [Value.cells] at hcs
      simp only [Prod.mk.injEq] at hd
      obtain ⟨el, sp, hd1, hll⟩ : ∃ el sp, d0 = .slice el sp ∧ l ≤ el.length + sp.length := ⟨lits .u8 (zs.take l), lits .u8 (zs.drop l), hd.1, by have hz2 : zs.length = c := (by simpa using hz); simp [lits]; omega⟩
      have := sized_slice hwt (j := 0) (elems := el) (spare := sp) rfl (by rw [hd1]; rfl) Try.underlying22
      refine Nat.le_trans (Nat.mul_le_mul_right _ ?_) this
      rw [hcs.2.1]
      exact hll
  clear hA0
  simp only [List.append_nil] at hW'
  refine (bounds_row W a0 len0 cap0 z0 x0 s0).mono fun e W' ⟨he, bel⟩ => ?_
  subst he
  exact ⟨_, rfl, _, _, _, [], _, [], hW', trodAll_mk1 (shut_bool Try.underlying4 _), (trodAll_cons_mk (Below.trod laidOut (by kernel_rfl) (of_decide_eq_true (by kernel_rfl)) k0 bel lt0) trodAll_mk0), rfl, bel.frame _, fun h => by cases h⟩
theorem reads (os : Os) {H : Type} (enc : TypeId × Value → H) : ∃ places, DataW.whole enc Try.prog ((heldWorld os).forCall (fun _ _ => 0) ⟨#[], #[.slice none 0 0], []⟩).memory Try.f4.params.toList Rows.parseBoundsSpec.vars false #[Value.slice none 0 0].toList 8 = some ([.nil], [], places) :=
  ⟨[], by kernel_rfl⟩

set_option maxRecDepth 100000 in
theorem lifted (os : Os) (started : os.Started) (H : Type) (enc : TypeId × Value → H) (F : Stop.Interp) :
    ReturnsInHanded {} Try.checked os 4 .any ((OpenSpec.ofChange Rows.parseBoundsSpec).preRow enc Try.prog Try.f4 Rows.parseBoundsRow.domain false Rows.parseBoundsRow.laid) (((OpenSpec.ofChange Rows.parseBoundsSpec).at F).post enc Try.prog Try.f4 false true false false) := by
  obtain ⟨places, hx⟩ := reads os enc
  refine returnsInHanded_of_row (C := Try.checked) (s := OpenSpec.ofChange Rows.parseBoundsSpec) own started (by kernel_rfl) Try.func4
    (witness_row_at (enc := enc) (C := Try.checked) false (heldWorld os) #[.slice none 0 0] rfl (by kernel_rfl) (by kernel_rfl) (by kernel_rfl)
      (OpenSpec.preRow_of_cond 8 hx (by kernel_rfl) (fun k hk => by cases hk) (by kernel_rfl) (laidMet_of_run' 8 (by kernel_rfl) (by kernel_rfl)))) ?_
  intro W base args ds gs before hval hW _ _ hwt _ _ _
  exact contract H enc W base args ds gs before hval hW hwt

theorem said : Rows.ParseBoundsSaid :=
  OpenClaim.holds_of_cond 4 Try.f4 rfl rfl rfl rfl rfl rfl rfl ⟨rfl, rfl, rfl, rfl, rfl⟩ rfl rfl rfl rfl rfl (by kernel_rfl) Try.func4 (by kernel_rfl)
    (of_decide_eq_true (by kernel_rfl)) (by unfold Func.isWrapper; first | (rw [if_pos (by decide +kernel)]; kernel_rfl) | (rw [if_neg (by decide +kernel)]; exact ⟨rfl, rfl⟩))
    (fun os started H enc _ F => by rw [OpenClaim.pre_eq_preRow]; exact lifted os started H enc F)
#print axioms said
end parseBoundsL
end Go.Proofs.Ytijjnpegokfidaa
