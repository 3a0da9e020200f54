/- Texts of this claim, merged by a program of this claim: FLaw12. -/
import Derived.Test.YtnomaidopdgdbaaGreatDoorMm19
import Derived.Test.YtnomaidopdgdbaaGreatDoorMm24
import Derived.Test.YtnomaidopdgdbaaGreatDoorMm25
namespace Go.Proofs.YtnomaidopdgdbaaGreatDoor
set_option linter.unusedVariables false
set_option linter.unusedSimpArgs false
section
open Go.RowKit
set_option maxRecDepth 100000
set_option maxHeartbeats 4000000
noncomputable def sp_fixed12 : Spec := spOf (α := Unit) (fun _ => []) fun _ => (True, .ret (.bool true))
theorem sp_fixed12_at : sp_fixed12 [] = some (True, .ret (.bool true)) := spOf_at (α := Unit) _ (fun x y h => rfl) ()
theorem al_fixed12 : Alias Tryz.prog E0 17 sp_fixed12 := Alias.of fun _ hG => (by
  dsimp only at hG ⊢
  exact tf_fixed12)
theorem fr_fixed12 : Fresh Tryz.prog E0 17 sp_fixed12 := Alias.fresh al_fixed12 (fun x => rfl)
noncomputable def sp_lawM : Spec := spOf (α := Int × Int × (List CD) × Int × Int × Bool × Int × ByteArray × (List ByteArray)) (fun ⟨k, r, L, x, y, hd, mo, ti, l⟩ => [.agg [.int .i64 k, .int .i64 r, .vec .cell L, .int .i64 x, .int .i64 y, .bool hd, .int .u8 mo, .str ti, .vec .str l]]) fun ⟨k, r, L, x, y, hd, mo, ti, l⟩ => ((∀ c ∈ L, CWf c) ∧ SLen ti ∧ (∀ s ∈ l, SLen s) ∧ 0 ≤ mo, .ret (.bool true))
theorem sp_lawM_at (k : Int) (r : Int) (L : List CD) (x : Int) (y : Int) (hd : Bool) (mo : Int) (ti : ByteArray) (l : List ByteArray) : sp_lawM [.agg [.int .i64 k, .int .i64 r, .vec .cell L, .int .i64 x, .int .i64 y, .bool hd, .int .u8 mo, .str ti, .vec .str l]] = some ((∀ c ∈ L, CWf c) ∧ SLen ti ∧ (∀ s ∈ l, SLen s) ∧ 0 ≤ mo, .ret (.bool true)) := spOf_at (α := Int × Int × (List CD) × Int × Int × Bool × Int × ByteArray × (List ByteArray)) _ (fun ⟨k, r, L, x, y, hd, mo, ti, l⟩ ⟨k', r', L', x', y', hd', mo', ti', l'⟩ h => by first | simpa [CP] using h | (simp [CP] at h ⊢; grind)) (k, r, L, x, y, hd, mo, ti, l)
theorem al_lawM : Alias Tryz.prog E0 4 sp_lawM := Alias.of fun ⟨k, r, L, x, y, hd, mo, ti, l⟩ hG => TF.intro (V := (VV [(17, conF [] sp_fixed12), (18, conF [.agg [.any, .any, .sl .cell, .any, .any, .any, .any, .any, .sl .str]] sp_scopy), (19, conF [.agg [.any, .any, .sl .cell, .any, .any, .any, .any, .any, .sl .str]] sp_eright), (20, conF [.agg [.any, .any, .sl .cell, .any, .any, .any, .any, .any, .sl .str]] sp_r12right), (15, conF [.agg [.any, .any, .sl .cell, .any, .any, .any, .any, .any, .sl .str], .agg [.any, .any, .sl .cell, .any, .any, .any, .any, .any, .sl .str]] sp_ssame)] (.cons (chkFn_callable k_l12_fixed) (Fresh.soundF fr_fixed12) (.cons (chkFn_callable k_r12_Copy) (Fresh.soundF fr_scopy) (.cons (chkFn_callable k_emul_Right) (Fresh.soundF fr_eright) (.cons (chkFn_callable k_r12_Right) (Fresh.soundF fr_r12right) (.cons (chkFn_callable k_r12_Same) (Fresh.soundF fr_ssame) GOk.nil))))) 36 0)) k_l12_EmulMay rfl rfl (by
  dsimp only at hG ⊢
  obtain ⟨hwf, ht, hsl, hmo⟩ := hG
  repeat' first | exact ⟨hwf, by omega, by omega, hsl⟩ | exact ht | exact hwf _ ‹_› | simp only [SB, E, seval, rdB, ne_eq, implies_true, sp_fixed12_at, sp_scopy_at, sp_eright_at, sp_r12right_at, sp_ssame_at] | refine T.seq ?_ | refine T.stm ?_ | refine T.rg ?_ | refine wpR_o ?_ | refine wpR_g ?_ | refine wpR_e ?_ | refine T.cond ?_ | refine T.skip ?_ | refine T.ret ?_ | refine T.exit ?_ | refine T.block ?_ | refine Cos.intro [] [] rfl ?_ | refine And.intro ?_ ?_ | (intro hyp0; have hyp := hyp0; (try simp only [HB, ne_eq, reduceCtorEq] at hyp); (try simp only [hyp0]); (try clear hyp0); try (exfalso; omega; done)) | omega)
end
end Go.Proofs.YtnomaidopdgdbaaGreatDoor
