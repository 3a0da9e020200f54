/- Texts of this claim, merged by a program of this claim: FBytes. -/
import Derived.Test.YtcfkfgkndncanaaGreatDoorMa20
import Derived.Test.YtcfkfgkndncanaaGreatDoorMa24
namespace Go.Proofs.YtcfkfgkndncanaaGreatDoor
set_option linter.unusedVariables false
set_option linter.unusedSimpArgs false
section
open Go.RowKit
set_option maxRecDepth 100000
set_option maxHeartbeats 4000000
abbrev jq7 (L:List Int) (M:List Int):List CV:=[.vec (.int .u8) L,.vec (.int .u8) M]
abbrev jq8 (L:List Int) (M:List Int):Prop×Res:=(L.length≤4611686018427387904∧M.length≤4611686018427387904,.ret (.bool (decide (L=M))))
noncomputable def sp_bsame:Spec:=spOf (α:=(List Int)×(List Int)) (fun⟨L,M⟩=>jq7 L M) fun⟨L,M⟩=>jq8 L M
theorem jcm (L:List Int) (M:List Int):sp_bsame (jq7 L M)=some (jq8 L M):=jaq _ injS (L,M)
theorem jya:Alias Tryz.prog E0 14 sp_bsame:=Alias.of fun⟨L,M⟩ hG=>TF.intro (V:=(VV [] GOk.nil 26 0)) jiR rfl rfl (by
 dsimp only[jq7,jq8]at hG ⊢
 repeat' first|simp only[SA,seval,rdB]|refine tT ?_|refine Cos.intro [] [] rfl ?_|refine And.intro ?_ ?_|exact tC|(refine tI ?_;intro hyp)|intro hyp0|omega
 ·exact (decide_eq_false fun e=>by subst e;omega).symm
 ·refine T.loop (fun k:Nat=>⟨[(0,.vec (.int .u8) L),(1,.vec (.int .u8) M),(12,.int .i64 L.length),(13,.int .i64 k)],[]⟩) (fun k=>k≤L.length∧∀j,j<k→L[j]?=M[j]?) (fun k=>L.length-k) 0 ⟨by omega,fun j hj=>by omega⟩ (Cos.intro [] [] rfl (by (simp only[SA,seval,rdB]);first|done|(repeat' apply And.intro)<;>first|rfl|omega|simp)) (fun k ⟨hk,hall⟩=>?_)
  repeat' first|simp only[SA,seval,rdB]|refine tT ?_|refine Cos.intro [] [] rfl ?_|exact⟨k+1,⟨by omega,jhV (by omega) (by omega) hyp hall⟩,by omega,(Cos.intro [] [] rfl (by (simp only[SA,seval,rdB]);first|done|(repeat' apply And.intro)<;>first|rfl|omega|simp))⟩|refine And.intro ?_ ?_|exact tC|(refine tI ?_;intro hyp)|intro hyp0|omega
  ·exact (decide_eq_false fun e=>by subst e;exact hyp rfl).symm
  ·exact (decide_eq_true (jj9 (by omega) (by omega) hall)).symm)
theorem jyb:Fresh Tryz.prog E0 14 sp_bsame:=Alias.fresh jya (fun x=>rfl)
end
end Go.Proofs.YtcfkfgkndncanaaGreatDoor
