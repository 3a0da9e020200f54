/- Texts of this claim, merged by a program of this claim: FThing. -/
import Derived.Test.YtcfkfgkndncanaaGreatDoorMa29
import Derived.Test.YtcfkfgkndncanaaGreatDoorMa31
namespace Go.Proofs.YtcfkfgkndncanaaGreatDoor
set_option linter.unusedVariables false
set_option linter.unusedSimpArgs false
section
open Go.RowKit
set_option maxRecDepth 100000
set_option maxHeartbeats 4000000
theorem jA0 {x y:Int}(hx:0≤x∧x≤80) (hy:0≤y∧y≤24):0≤x*y∧x*y≤1920 :=
 ⟨Int.mul_nonneg hx.1 hy.1,Int.le_trans (Int.mul_le_mul hx.2 hy.2 hy.1 (by decide)) (by decide)⟩
theorem jsH {x y:Int}(hx:0≤x∧x≤80) (hy:0≤y∧y≤24) (h:¬x*y=0):jev x y=true:=by
 have hx0:x≠0:=fun e=>h (by rw[e,Int.zero_mul])
 have hy0:y≠0:=fun e=>h (by rw[e,Int.mul_zero])
 simp only[jev,Bool.and_eq_true,decide_eq_true_eq]
 omega
theorem jwC {d:List Int}{a:Nat}{k r:Int}{L:List CD}(hz:Szd k r L) (hb:Bts d) (ha:a≤d.length) (h:(cpsG d a k.toNat r.toNat L).1=0):(cpsG d a k.toNat r.toNat L).2.2.length=L.length:=by
 unfold cpsG at h ⊢
 split at h
 ·rename_i q
  exact absurd h q
 ·rename_i q
  rw[if_neg q]
  exact (jnQ k.toNat r.toNat L hz.2.2 hb _ _ _ _ (jbS ha) hz.2.2).2 h
theorem jwD {d:List Int}{a k nl:Nat}{L:List CD}(ha:a≤d.length) (h:(rnsG d a k nl L).1=0):(rnsG d a k nl L).2.2.length=L.length:=by
 unfold rnsG at h ⊢
 split at h
 ·rename_i q
  exact absurd h q
 ·rename_i q
  rw[if_neg q]
  exact (jnP k nl _ _ _ _ (jbS ha)).2 h
end
end Go.Proofs.YtcfkfgkndncanaaGreatDoor
