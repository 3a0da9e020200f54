/- Texts of this claim, merged by a program of this claim: KDiff. -/
import Derived.Test.YtienkkicehmchaaGreatDoorDa5
namespace Go.Proofs.YtienkkicehmchaaGreatDoor
set_option linter.unusedVariables false
set_option linter.unusedSimpArgs false
section
open Go.RowKit
set_option maxRecDepth 100000
def z101_0:LC:=.seq (.stm [6,7] [sd 8 (.load true 9 4),sd 9 (.load true 9 5),sd 10 (.call 99 [8,9]),sd 11 (.ext 10 0),sd 12 (.ext 10 1),kM 6 11,kM 7 12]) .ret
def z101:LC:=.seq (.stm [4,5] [sd 3 (.box 0),sd 4 (.box 1),sd 5 (.box 2),kM 6 kn,kM 7 (ki 0)]) z101_0
theorem jef:jag Tryz.prog eqs0 47 z101 [.t 6,.t 7] 13=true:=by kernel_rfl
def z102_0:LC:=.seq (.stm [4,5] [sd 6 (.load true 9 3),sd 7 (.call 100 [6]),sd 8 (.ext 7 0),sd 9 (.ext 7 1),kM 4 8,kM 5 9]) .ret
def z102:LC:=.seq (.stm [3] [sd 2 (.box 0),sd 3 (.box 1),kM 4 kn,kM 5 (ki 0)]) z102_0
theorem jfr:jag Tryz.prog eqs0 48 z102 [.t 4,.t 5] 10=true:=by kernel_rfl
def z103_0:LC:=.seq (.stm [6,7] [sd 8 (.load true 9 4),sd 9 (.load true 9 5),sd 10 (.call 106 [8,9]),sd 11 (.ext 10 0),sd 12 (.ext 10 1),kM 6 11,kM 7 12]) .ret
def z103:LC:=.seq (.stm [4,5] [sd 3 (.box 0),sd 4 (.box 1),sd 5 (.box 2),kM 6 kn,kM 7 (ki 0)]) z103_0
theorem jeg:jag Tryz.prog eqs0 55 z103 [.t 6,.t 7] 13=true:=by kernel_rfl
def z104_0:LC:=.seq (.stm [4,5] [sd 6 (.load true 9 3),sd 7 (.call 107 [6]),sd 8 (.ext 7 0),sd 9 (.ext 7 1),kM 4 8,kM 5 9]) .ret
def z104:LC:=.seq (.stm [3] [sd 2 (.box 0),sd 3 (.box 1),kM 4 kn,kM 5 (ki 0)]) z104_0
theorem jfs:jag Tryz.prog eqs0 56 z104 [.t 4,.t 5] 10=true:=by kernel_rfl
def z105_4:LC:=.seq (.stm [6,7] [kM 6 kn,kM 7 (ki 1)]) .ret
def z105_3:LC:=.cond 20 z105_4 .skip
def z105_2:LC:=.seq (.stm [4,5,8,20] [kM 19 9,sd 20 (.un .not 19)]) z105_3
def z105_9:LC:=.seq (.stm [6,7] [kM 31 11,kM 6 kn,kM 7 31]) .ret
def z105_8:LC:=.cond 30 z105_9 .skip
def z105_7:LC:=.seq (.stm [5,8,10,11,30] [kM 29 11,sd 30 (.cmp .neq 29 (ki 0))]) z105_8
def z105_14:LC:=.seq (.stm [6,7] [kM 44 12,kM 6 44,kM 7 (ki 0)]) .ret
def z105_13:LC:=.cond 43 z105_14 .skip
def z105_12:LC:=.seq (.stm [10,12,43] [kM 39 12,sd 40 (.len false 39),kM 41 10,sd 42 (.len false 41),sd 43 (.lt 40 42)]) z105_13
def z105_11:LC:=.seq (.stm [10,12] [kF 33 8 2,kL 34 1 33,sd 35 (.load true 9 5),sd 36 (.callv 34 [35]),kM 32 36,sd 37 (.ext 32 0),sd 38 (.ext 32 1),kM 12 37,kM 13 38]) z105_12
def z105_15:LC:=.seq (.stm [6,7] [kM 45 10,kM 6 45,kM 7 (ki 0)]) .ret
def z105_10:LC:=.seq z105_11 z105_15
def z105_6:LC:=.seq z105_7 z105_10
def z105_5:LC:=.seq (.stm [5,8,10,11] [kF 22 8 1,kL 23 1 22,sd 24 (.load true 9 4),sd 25 (.load true 9 5),sd 26 (.callv 23 [24,25]),kM 21 26,sd 27 (.ext 21 0),sd 28 (.ext 21 1),kM 10 27,kM 11 28]) z105_6
def z105_1:LC:=.seq z105_2 z105_5
def z105_0:LC:=.seq (.stm [4,5,8,9] [kM 15 0,sd 16 (.call 24 [15]),kM 14 16,sd 17 (.ext 14 0),sd 18 (.ext 14 1),sd 8 (.zero [.nilfn,.nilfn,.nilfn,.nilfn]),sn (.store 4 8 17),kM 9 18]) z105_1
def z105:LC:=.seq (.stm [0,4,5] [sd 4 (.box 1),sd 5 (.box 2),kM 6 kn,kM 7 (ki 0)]) z105_0
theorem jls:jag Tryz.prog eqs0 10 z105 [.t 6,.t 7] 46=true:=by kernel_rfl
end
end Go.Proofs.YtienkkicehmchaaGreatDoor
