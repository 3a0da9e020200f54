/- Texts of this claim, merged by a program of this claim: KApply, FApply, FDif, FDif2. -/
import Derived.Test.YtienkkicehmchaaGreatDoorDo10
import Derived.Test.YtienkkicehmchaaGreatDoorDo12
import Derived.Test.YtienkkicehmchaaGreatDoorDo15
import Derived.Test.YtienkkicehmchaaGreatDoorDo16
import Derived.Test.YtienkkicehmchaaGreatDoorDo17
import Derived.Test.YtienkkicehmchaaGreatDoorDo20
import Derived.Test.YtienkkicehmchaaGreatDoorDo5
import Derived.Test.YtienkkicehmchaaGreatDoorDo6
namespace Go.Proofs.YtienkkicehmchaaGreatDoor
open And renaming intro→qaa
open Cos renaming intro→qab,err→qac
noncomputable section
set_option linter.unusedVariables false
set_option linter.unusedSimpArgs false
section
open Go.RowKit
set_option maxRecDepth 100000
def z101_1:LC:=.cond 9 (.stm [] [kM 10 2,sd 11 (.mkif 29 10),sn (.panic 11)]) .skip
def z101_0:LC:=.seq (.stm [2,9] [kM 8 2,sd 9 (.cmp .neq 8 (ki 0))]) z101_1
def z101:LC:=.seq (.stm [2] [kM 3 0,sd 4 (.nilck 3),kF 5 4 0,kL 6 1 5,sd 7 (.call 140 [6]),kM 2 7]) z101_0
theorem jaK:jad Tryz.prog eqs0 181 z101 [] 12=true:=by kernel_rfl
def z102_4:LC:=.cond 20 (.stm [5] [sd 21 (.mkif 29 (ki 3)),sn (.panic 21)]) .skip
def z102_3:LC:=.seq (.stm [5,20] [kM 13 1,sd 14 (.lt 13 (ki 0)),kM 15 14,.g 15 false [kM 16 5,kM 17 1,sd 18 (.conv .u64 true 17),sd 19 (.cmp .gtr 16 18)] 20 kt 19]) z102_4
def z102_5:LC:=.seq (.stm [4] [kM 22 5,sd 23 (.conv .i64 true 22),kM 4 23]) .ret
def z102_1:LC:=.seq (.stm [1,5] [kM 11 0,sd 12 (.call 181 [11])]) (.seq z102_3 z102_5)
def z102_0:LC:=.seq (.stm [0,1,5] [kM 6 0,sd 7 (.nilck 6),kF 8 7 0,kL 9 1 8,sd 10 (.call 169 [9]),kM 5 10]) z102_1
def z102:LC:=.seq (.stm [0,1] [kM 4 (ki 0)]) z102_0
theorem jaL:jad Tryz.prog eqs0 182 z102 [.t 4] 24=true:=by kernel_rfl
def z103_4:LC:=.cond 12 (.stm [3] [sd 13 (.mkif 29 (ki 3)),sn (.panic 13)]) .skip
def z103_3:LC:=.seq (.stm [3,12] [kM 11 3,sd 12 (.eq 11 (.c (.int .u64 0)))]) z103_4
def z103_1:LC:=.seq (.stm [3] [kM 9 0,sd 10 (.call 181 [9])]) (.seq z103_3 (.seq (.stm [2] [kM 14 3,kM 2 14]) .ret))
def z103_0:LC:=.seq (.stm [0,3] [kM 4 0,sd 5 (.nilck 4),kF 6 5 0,kL 7 1 6,sd 8 (.call 169 [7]),kM 3 8]) z103_1
def z103:LC:=.seq (.stm [0] [sd 2 (.mov (.c (.int .u64 0)))]) z103_0
theorem jbN:jad Tryz.prog eqs0 200 z103 [.t 2] 15=true:=by kernel_rfl
def z104_15:LC:=.cond 41 (.stm [0,4,28,29] [sd 42 (.mkif 29 (ki 3)),sn (.panic 42)]) .skip
def z104_14:LC:=.seq (.stm [0,4,28,29,41] [kM 38 4,sd 39 (.b2s 38),sd 40 (.call 128 [39]),sd 41 (.un .not 40)]) z104_15
def z104_13:LC:=.seq z104_14 (.reg [0,28,29] [kR 0 43 (.mov 0),kR 1 44 (.mov 0),kR 2 45 (.nilck 44),kR 3 46 (.fa 45 10),kR 4 47 (.ld 1 46),kR 5 48 (.mov 4),kR 6 49 (.b2s 48),kR 7 50 (.bslice .str [49]),⟨8,some 51,none,.app .str 47 50,false,true⟩,kR 9 52 (.nilck 43),kR 10 53 (.fa 52 10),⟨11,none,none,.store 1 53 51,false,true⟩])
def z104_12:LC:=.seq (.stm [0,4,28,29] [kM 36 0,sd 37 (.call 181 [36])]) z104_13
def z104_11:LC:=.seq (.stm [0,4,28,29] [kM 31 0,sd 32 (.nilck 31),kF 33 32 0,kL 34 1 33,sd 35 (.call 172 [34,(ki 64)]),kM 4 35]) z104_12
def z104_9:LC:=.seq (.block 1 z104_11) (.stm [0,28,29] [sd 54 (.add 29 (ki 1)),kM 29 54])
def z104_6:LC:=.seq (.stm [0,28,29,30] [sd 30 (.lt 29 28)]) (.seq (.cond 30 .skip (.exit 0)) z104_9)
def z104_5:LC:=.loop z104_6
def z104_3:LC:=.seq (.stm [0,28,29] [kM 28 3,kM 29 (ki 0)]) (.block 0 z104_5)
def z104_2:LC:=.seq z104_3 (.reg [] [kR 0 55 (.mov 0),kR 1 56 (.mov 0),kR 2 57 (.nilck 56),kR 3 58 (.fa 57 1),kR 4 59 (.load true 9 58),kR 5 60 (.mov 0),kR 6 61 (.nilck 60),kR 7 62 (.fa 61 10),kR 8 63 (.ld 1 62),⟨9,some 64,none,.call 175 [59,63],false,true⟩,kR 10 65 (.nilck 55),kR 11 66 (.fa 65 1),kR 12 67 (.fa 66 2),⟨13,none,none,.store 1 67 64,false,true⟩])
def z104_1:LC:=.seq (.stm [0,3] [kM 17 0,kM 18 0,sd 19 (.nilck 18),kF 20 19 1,kF 21 20 8,kL 22 1 21,kM 23 2,sd 24 (.sl false 1 22 none (some 23) none),sd 25 (.call 43 [24]),sd 26 (.nilck 17),kF 27 26 10,sn (.store 1 27 25)]) z104_2
def z104_0:LC:=.seq (.stm [0,2,3] [kM 13 0,kM 14 2,sd 15 (.sub (ki 16) 14),sd 16 (.call 182 [13,15]),kM 3 16]) z104_1
def z104:LC:=.seq (.stm [0,2] [kM 5 0,kM 6 0,sd 7 (.nilck 6),kF 8 7 1,kF 9 8 8,kL 10 1 9,sd 11 (.len false 10),sd 12 (.call 182 [5,11]),kM 2 12]) z104_0
theorem jcK:jad Tryz.prog eqs0 183 z104 [] 68=true:=by kernel_rfl
def z105_6:LC:=.seq (.stm [0,2,3,4,19] [kM 18 4,sd 19 (.cmp .gtr 18 (.c (.int .u64 0)))]) (.cond 19 .skip (.exit 0))
def z105_11:LC:=.seq (.reg [0,2,3,4] [kR 0 34 (.mov 0),kR 1 35 (.nilck 34),kR 2 36 (.fa 35 1),kR 3 37 (.load true 9 36),kR 4 38 (.mov 3),kR 6 40 (.load true 9 2),kR 7 41 (.mov 0),kR 8 42 (.mov 0),kR 9 43 (.nilck 42),kR 10 44 (.fa 43 1),kR 11 45 (.fa 44 1),kR 12 46 (.ld 1 45),kR 13 47 (.sub 46 (ki 1)),⟨5,some 39,none,.call 197 [37,38],true,true⟩,⟨14,some 48,none,.call 182 [41,47],true,true⟩,⟨15,some 49,none,.call 197 [40,48],false,true⟩,⟨16,some 50,none,.cpy .cell 39 49,false,true⟩]) (.stm [0,2,3,4] [kM 51 3,sd 52 (.add 51 (ki 1)),kM 3 52])
def z105_10:LC:=.seq (.stm [0,2,3,4] [kM 22 3,kM 23 0,kM 24 0,sd 25 (.nilck 24),kF 26 25 1,kF 27 26 1,kL 28 1 27,sd 29 (.sub 28 (ki 1)),kM 30 3,sd 31 (.sub 29 30),sd 32 (.call 182 [23,31]),sd 33 (.add 22 32),kM 3 33]) z105_11
def z105_8:LC:=.seq (.block 1 z105_10) (.stm [0,2,3,4] [kM 20 4,sd 21 (.ari .sub true 20 (.c (.int .u64 1))),kM 4 21])
def z105_4:LC:=.loop (.seq z105_6 z105_8)
def z105_2:LC:=.seq (.stm [0,2,3,4] [kM 16 0,sd 17 (.call 200 [16]),kM 4 17]) (.block 0 z105_4)
def z105_0:LC:=.seq (.stm [0,2] [kM 9 0,sd 10 (.nilck 9),kF 11 10 1,kF 12 11 2,kL 13 1 12,sd 14 (.call 42 [13]),kF 15 2 2,sn (.store 1 15 14)]) (.seq (.stm [0,2,3] [kM 3 (ki 0)]) z105_2)
def z105:LC:=.seq (.stm [0,2] [kM 5 0,sd 6 (.nilck 5),kF 7 6 1,sd 8 (.load true 9 7),sd 2 (.zero [.int .i64 0,.int .i64 0,.nils,.int .i64 0,.int .i64 0,.bool false,.int .u8 0,.str (bs []),.nils]),sn (.store 9 2 8)]) z105_0
theorem jco:jad Tryz.prog eqs0 184 z105 [] 53=true:=by kernel_rfl
def z106_3:LC:=.cond 9 (.stm [3] [sd 10 (.mkif 29 (ki 3)),sn (.panic 10)]) .skip
def z106_2:LC:=.seq (.stm [3,9] [kM 7 3,sd 8 (.call 158 [7]),sd 9 (.un .not 8)]) z106_3
def z106_0:LC:=.seq (.stm [3] [kM 4 0,sd 5 (.call 182 [4,(ki 4294967295)]),sd 6 (.conv .u32 true 5),kM 3 6]) (.seq z106_2 (.seq (.stm [2] [kM 11 3,kM 2 11]) .ret))
def z106:LC:=.seq (.stm [0] [sd 2 (.mov (.c (.int .u32 0)))]) z106_0
theorem jcL:jad Tryz.prog eqs0 201 z106 [.t 2] 12=true:=by kernel_rfl
def z107_4:LC:=.seq (.stm [0,2,3,4,18] [kM 17 4,sd 18 (.cmp .gtr 17 (.c (.int .u64 0)))]) (.cond 18 .skip (.exit 0))
def z107_12:LC:=.cond 34 (.stm [0,2,3,4,5] [sd 35 (.mkif 29 (ki 3)),sn (.panic 35)]) .skip
def z107_11:LC:=.seq (.stm [0,2,3,4,5,34] [kM 33 5,sd 34 (.eq 33 (ki 0))]) z107_12
def z107_26:LC:=.cond 83 (.stm [0,2,3,4,6,7,8,52,53] [sd 84 (.mkif 29 (ki 3)),sn (.panic 84)]) .skip
def z107_25:LC:=.seq (.reg [0,2,3,4,6,7,8,52,53,83] [kR 0 60 (.mov 8),kR 1 61 (.eq 60 (ki 0)),kR 2 62 (.mov 61),⟨3,some 63,some (62,false),.mov 2,false,false⟩,⟨4,some 64,some (62,false),.mov 3,false,false⟩,⟨5,some 65,some (62,false),.eq 63 64,false,false⟩,kR 6 66 (.pick 62 kt 65),kR 7 67 (.mov 66),⟨8,some 68,some (67,false),.mov 2,false,false⟩,⟨9,some 69,some (67,false),.mov 0,false,false⟩,⟨10,some 70,some (67,false),.nilck 69,false,false⟩,⟨11,some 71,some (67,false),.faddr 70 1,false,false⟩,⟨12,some 72,some (67,false),.faddr 71 0,false,false⟩,⟨13,some 73,some (67,false),.load false 1 72,false,false⟩,⟨14,some 74,some (67,false),.ari .rem false 68 73,false,false⟩,⟨15,some 75,some (67,false),.mov 8,false,false⟩,⟨16,some 76,some (67,false),.add 74 75,false,false⟩,⟨17,some 77,some (67,false),.mov 0,false,false⟩,⟨18,some 78,some (67,false),.nilck 77,false,false⟩,⟨19,some 79,some (67,false),.faddr 78 1,false,false⟩,⟨20,some 80,some (67,false),.faddr 79 0,false,false⟩,⟨21,some 81,some (67,false),.load false 1 80,false,false⟩,⟨22,some 82,some (67,false),.cmp .gtr 76 81,false,false⟩,kR 23 83 (.pick 67 kt 82)]) z107_26
def z107_30:LC:=.cond 96 (.reg [0,2,3,4,6,8,52,53] [kR 0 97 (.mov 0),kR 1 98 (.nilck 97),kR 2 99 (.fa 98 1),kR 3 100 (.fa 99 2),kR 4 101 (.ld 1 100),kR 5 102 (.mov 2),kR 6 103 (.mov 0),kR 7 104 (.nilck 103),kR 8 105 (.fa 104 1),kR 9 106 (.fa 105 2),kR 10 107 (.ld 1 106),kR 11 108 (.mov 2),kR 12 109 (.add 108 (ki 1)),kR 13 110 (.load true 4 6),kR 14 111 (.build [.int .i32 0,.int .u8 0,.int .u32 0,.int .u32 0,.int .u8 0,.int .u16 0] [(1,1,(k8 2)),(2,4,110)]),kR 15 112 (.ixS 6 101 102),kR 16 113 (.fa 112 1),⟨17,none,none,.store 1 113 (k8 1),true,true⟩,kR 18 114 (.ixS 6 107 109),⟨19,none,none,.store 6 114 111,false,true⟩]) .skip
def z107_29:LC:=.seq (.stm [0,2,3,4,6,8,52,53,96] [kM 95 8,sd 96 (.eq 95 (ki 2))]) z107_30
def z107_28:LC:=.seq z107_29 (.stm [0,2,3,4,6,52,53] [kM 115 2,kM 116 8,sd 117 (.add 115 116),kM 2 117])
def z107_27:LC:=.seq (.reg [0,2,3,4,6,8,52,53] [kR 0 85 (.mov 0),kR 1 86 (.nilck 85),kR 2 87 (.fa 86 1),kR 3 88 (.fa 87 2),kR 4 89 (.ld 1 88),kR 5 90 (.mov 2),kR 6 91 (.mov 7),kR 7 92 (.load true 4 6),kR 8 93 (.build [.int .i32 0,.int .u8 0,.int .u32 0,.int .u32 0,.int .u8 0,.int .u16 0] [(0,1,91),(2,4,92)]),kR 9 94 (.ixS 6 89 90),⟨10,none,none,.store 6 94 93,false,true⟩]) z107_28
def z107_23:LC:=.seq (.stm [0,2,3,4,6,7,8,52,53] [kM 58 7,sd 59 (.call 95 [58]),kM 8 59]) (.seq z107_25 z107_27)
def z107_22:LC:=.seq (.stm [0,2,3,4,6,7,52,53] [kM 55 0,sd 56 (.call 182 [55,(ki 1114111)]),sd 57 (.conv .i32 true 56),kM 7 57]) z107_23
def z107_20:LC:=.seq (.block 3 z107_22) (.stm [0,2,3,4,6,52,53] [sd 118 (.add 53 (ki 1)),kM 53 118])
def z107_17:LC:=.seq (.stm [0,2,3,4,6,52,53,54] [sd 54 (.lt 53 52)]) (.seq (.cond 54 .skip (.exit 2)) z107_20)
def z107_16:LC:=.loop z107_17
def z107_14:LC:=.seq (.stm [0,2,3,4,6,52,53] [kM 52 5,kM 53 (ki 0)]) (.block 2 z107_16)
def z107_13:LC:=.seq (.reg [0,2,3,4,5,6] [kR 0 36 (.mov 0),kR 2 38 (.mov 0),kR 4 40 (.mov 0),kR 7 43 (.mov 0),kR 8 44 (.mov 0),kR 9 45 (.nilck 44),kR 10 46 (.fa 45 10),kR 11 47 (.ld 1 46),kR 12 48 (.len false 47),⟨1,some 37,none,.call 201 [36],true,true⟩,⟨3,some 39,none,.call 201 [38],true,true⟩,⟨5,some 41,none,.call 182 [40,(ki 255)],true,true⟩,kR 6 42 (.conv .u8 true 41),⟨13,some 49,none,.call 182 [43,48],false,true⟩,kR 14 50 (.conv .u16 true 49),kR 15 51 (.build [.int .u32 0,.int .u32 0,.int .u8 0,.int .u16 0] [(0,1,37),(1,1,39),(2,1,42),(3,1,50)]),kR 16 6 (.zero [.int .u32 0,.int .u32 0,.int .u8 0,.int .u16 0]),⟨17,none,none,.store 4 6 51,false,true⟩]) z107_14
def z107_9:LC:=.seq (.stm [0,2,3,4,5] [kM 28 0,kM 29 3,kM 30 2,sd 31 (.sub 29 30),sd 32 (.call 182 [28,31]),kM 5 32]) (.seq z107_11 z107_13)
def z107_8:LC:=.seq (.stm [0,2,3,4] [kM 21 2,kM 22 0,kM 23 3,kM 24 2,sd 25 (.sub 23 24),sd 26 (.call 182 [22,25]),sd 27 (.add 21 26),kM 2 27]) z107_9
def z107_6:LC:=.seq (.block 1 z107_8) (.stm [0,2,3,4] [kM 19 4,sd 20 (.ari .sub true 19 (.c (.int .u64 1))),kM 4 20])
def z107_2:LC:=.loop (.seq z107_4 z107_6)
def z107_0:LC:=.seq (.stm [0,2,3,4] [kM 15 0,sd 16 (.call 200 [15]),kM 4 16]) (.block 0 z107_2)
def z107:LC:=.seq (.reg [0,2,3] [kR 0 9 (.mov 0),kR 1 10 (.nilck 9),kR 2 11 (.fa 10 1),kR 3 12 (.fa 11 2),kR 4 13 (.ld 1 12),kR 5 14 (.len false 13),kR 6 2 (.mov (ki 0)),kR 7 3 (.mov 14)]) z107_0
theorem jcR:jad Tryz.prog eqs0 185 z107 [] 119=true:=by kernel_rfl
def z108_9:LC:=.cond 37 (.stm [0,4,5] [sd 38 (.mkif 29 (ki 3)),sn (.panic 38)]) .skip
def z108_8:LC:=.seq (.stm [0,4,5,37] [kM 26 4,sd 27 (.cmp .gtr 26 (.c (.int .u64 80))),kM 28 27,.g 28 false [kM 29 5,sd 30 (.cmp .gtr 29 (.c (.int .u64 24)))] 31 kt 30,kM 32 31,.g 32 false [kM 33 4,kM 34 5,sd 35 (.ari .mul true 33 34),sd 36 (.eq 35 (.c (.int .u64 0)))] 37 kt 36]) z108_9
def z108_10:LC:=.seq (.stm [0] [kM 40 0,kM 41 4,sd 42 (.conv .i64 true 41),kM 43 5,sd 44 (.conv .i64 true 43),sd 45 (.call 136 [42,44]),kM 39 45,sd 46 (.ext 39 0),sd 47 (.ext 39 1),sd 48 (.nilck 40),kF 49 48 1,sn (.store 9 49 46)]) (.stm [] [kM 50 0,sd 51 (.nilck 50),kF 52 51 10,sn (.store 1 52 kn)])
def z108_6:LC:=.seq (.stm [0,4,5] [kM 24 0,sd 25 (.call 181 [24])]) (.seq z108_8 z108_10)
def z108_5:LC:=.seq (.stm [0,4,5] [kM 19 0,sd 20 (.nilck 19),kF 21 20 0,kL 22 1 21,sd 23 (.call 169 [22]),kM 5 23]) z108_6
def z108_3:LC:=.seq (.stm [0,4] [kM 12 0,sd 13 (.nilck 12),kF 14 13 0,kL 15 1 14,sd 16 (.call 169 [15]),kM 4 16]) (.seq (.stm [0,4] [kM 17 0,sd 18 (.call 181 [17])]) z108_5)
def z108_14:LC:=.seq (.stm [0] [kM 67 0,kM 68 0,kM 69 0,sd 70 (.nilck 69),kF 71 70 1,kF 72 71 1,kL 73 1 72,sd 74 (.sub 73 (ki 1)),sd 75 (.call 182 [68,74]),sd 76 (.nilck 67),kF 77 76 1,kF 78 77 4,sn (.store 1 78 75)]) (.stm [] [kM 79 0,kM 80 0,sd 81 (.call 182 [80,(ki 1)]),sd 82 (.eq 81 (ki 1)),sd 83 (.nilck 79),kF 84 83 1,kF 85 84 5,sn (.store 1 85 82)])
def z108_13:LC:=.seq (.stm [0] [kM 55 0,kM 56 0,kM 57 0,sd 58 (.nilck 57),kF 59 58 1,kF 60 59 0,kL 61 1 60,sd 62 (.sub 61 (ki 1)),sd 63 (.call 182 [56,62]),sd 64 (.nilck 55),kF 65 64 1,kF 66 65 3,sn (.store 1 66 63)]) z108_14
def z108_18:LC:=.seq (.stm [0,6] [kM 93 0,sd 94 (.call 181 [93])]) (.stm [] [kM 95 0,kM 96 6,sd 97 (.b2s 96),sd 98 (.nilck 95),kF 99 98 1,kF 100 99 7,sn (.store 1 100 97)])
def z108_17:LC:=.seq (.stm [0,6] [kM 88 0,sd 89 (.nilck 88),kF 90 89 0,kL 91 1 90,sd 92 (.call 172 [91,(ki 64)]),kM 6 92]) z108_18
def z108_28:LC:=.cond 126 (.stm [0,7] [sd 127 (.mkif 29 (ki 3)),sn (.panic 127)]) .skip
def z108_27:LC:=.seq (.stm [0,7,126] [kM 125 7,sd 126 (.eq 125 (ki 0))]) z108_28
def z108_32:LC:=.cond 133 (.stm [0,8] [kM 134 7,sd 135 (.un .neg 134),sd 136 (.ari .quo false 135 (ki 2)),kM 8 136]) .skip
def z108_31:LC:=.seq (.stm [0,7,8,133] [kM 131 7,sd 132 (.ari .rem false 131 (ki 2)),sd 133 (.eq 132 (ki 0))]) z108_32
def z108_30:LC:=.seq z108_31 (.stm [] [kM 137 0,kM 138 0,sd 139 (.nilck 138),kF 140 139 1,sd 141 (.load true 9 140),kM 142 8,sd 143 (.call 177 [141,142]),sd 144 (.nilck 137),kF 145 144 1,kF 146 145 2,sn (.store 1 146 143)])
def z108_29:LC:=.seq (.stm [0,7,8] [kM 128 7,sd 129 (.add 128 (ki 1)),sd 130 (.ari .quo false 129 (ki 2)),kM 8 130]) z108_30
def z108_25:LC:=.seq (.stm [0,7] [kM 116 0,kM 117 0,sd 118 (.nilck 117),kF 119 118 1,kF 120 119 1,kL 121 1 120,sd 122 (.ari .mul false (ki 2) 121),sd 123 (.sub 122 (ki 2)),sd 124 (.call 182 [116,123]),kM 7 124]) (.seq z108_27 z108_29)
def z108_36:LC:=.cond 151 (.stm [] [kM 153 0,sd 154 (.call 185 [153])]) .skip
def z108_35:LC:=.seq (.stm [0,151] [sd 152 (.eq 9 (ki 8)),kM 151 152]) z108_36
def z108_34:LC:=.cond 147 (.stm [] [kM 149 0,sd 150 (.call 184 [149])]) z108_35
def z108_33:LC:=.seq (.stm [0,9,147] [sd 148 (.eq 9 (ki 7)),kM 147 148]) z108_34
def z108_23:LC:=.seq (.stm [0,9,114] [sd 115 (.eq 9 (ki 6)),kM 114 115]) (.cond 114 z108_25 z108_33)
def z108_22:LC:=.cond 110 (.stm [] [kM 112 0,sd 113 (.call 183 [112])]) z108_23
def z108_21:LC:=.seq (.stm [0,9,110] [sd 111 (.eq 9 (ki 5)),kM 110 111]) z108_22
def z108_20:LC:=.cond 101 (.stm [] [kM 103 0,kM 104 0,sd 105 (.call 182 [104,(ki 2)]),sd 106 (.conv .u8 true 105),sd 107 (.nilck 103),kF 108 107 1,kF 109 108 6,sn (.store 1 109 106)]) z108_21
def z108_19:LC:=.seq (.stm [0,9,101] [sd 102 (.eq 9 (ki 4)),kM 101 102]) z108_20
def z108_15:LC:=.seq (.stm [0,9,86] [sd 87 (.eq 9 (ki 3)),kM 86 87]) (.cond 86 z108_17 z108_19)
def z108_11:LC:=.seq (.stm [0,9,53] [sd 54 (.eq 9 (ki 2)),kM 53 54]) (.cond 53 z108_13 z108_15)
def z108_1:LC:=.seq (.stm [0,9,10] [sd 11 (.eq 9 (ki 1)),kM 10 11]) (.cond 10 z108_3 z108_11)
def z108_0:LC:=.block 0 z108_1
def z108:LC:=.seq (.stm [0,9] [kM 9 1]) z108_0
theorem jcM:jad Tryz.prog eqs0 152 z108 [] 155=true:=by kernel_rfl
end
section
open Go.RowKit
set_option maxRecDepth 100000
set_option maxHeartbeats 4000000
abbrev RB (b:Nat) (k r:Int) (n:Nat) (x y:Int) (hd:Bool) (mo:Int) (ti:ByteArray) (l more:List ByteArray):KB:=.box [.ptr 1 0 0,.int .i64 k,.int .i64 r,.slice b 0 6 n n,.int .i64 x,.int .i64 y,.bool hd,.int .u8 mo,.str ti,.vec .str l,.vec .str more]
def RdOk (d:List Int) (a:Nat):Prop:=a≤d.length∧d.length≤1000000∧Bts d
abbrev q_must (k r:Int) (L:List CD) (x y:Int) (hd:Bool) (mo:Int) (ti:ByteArray) (l more:List ByteArray) (d:List Int) (a:Nat) (e:Int):QP:=(([.ptr 0 0 0],[RB 2 k r L.length x y hd mo ti l more,rdr d a e,.seq .cell L]),e,True,.ret (.tup []),[RB 2 k r L.length x y hd mo ti l more,rdr d a e,.seq .cell L])
def msp_must:=mspR (u13 q_must)
def esp_must:=espR (u13 q_must)
theorem jqH:InP (u13 q_must):=injM
theorem jgQ:W13 (hP msp_must esp_must) q_must:=w13 (aP rfl rfl jqH)
theorem jpw:Mp 181 msp_must esp_must:=ofP (u13 q_must) jqH fun⟨k,r,L,x,y,hd,mo,ti,l,more,d,a,e⟩ hG=>tfi (.m jaP jie .nil) 3 jaK (by
 dsimp only[u13,q_must]at hG ⊢
 have zc:=Hk.mk (@jcx)
 by_cases he:e=0
 ·rw[jaR he,jaS he]
  have hw:=he
  repeat' first|refine tU ?_|refine qab [0,1,2] [] rfl ?_|refine qaa ?_ ?_|(refine tI ?_;intro hyp)|intro hyp0|exact tZ|omega
 ·rw[jaf he,jag he]
  have hw:=eq_false he
  repeat' first|refine tU ?_|refine qac (qab [0,1,2] [] rfl ?_)|refine qaa ?_ ?_|(refine tI ?_;intro hyp)|intro hyp0|exact tZ|omega)
theorem joc (d:List Int) (a:Nat) (most:Int):(varE d a=0∧(¬most<0∧varV d a≤most)∧upE d a most=0)∨(varE d a=0∧(most<0∨most<varV d a)∧upE d a most=3)∨(¬varE d a=0∧upE d a most=varE d a):=by
 unfold upE
 by_cases h:varE d a=0
 ·by_cases q:most<0∨most<varV d a
  ·exact .inr (.inl ⟨h,q,by rw[if_neg (by simp[h]),if_pos q]⟩)
  ·exact .inl ⟨h,by omega,by rw[if_neg (by simp[h]),if_neg q]⟩
 ·exact .inr (.inr ⟨h,if_pos h⟩)
abbrev q_upto (k r:Int) (L:List CD) (x y:Int) (hd:Bool) (mo:Int) (ti:ByteArray) (l more:List ByteArray) (d:List Int) (a:Nat) (most:Int):QP:=(([.ptr 0 0 0,.int .i64 most],[RB 2 k r L.length x y hd mo ti l more,rdr d a 0,.seq .cell L]),upE d a most,RdOk d a∧(-1000000000000≤most∧most≤1000000000000),.ret (.int .i64 (varV d a)),[RB 2 k r L.length x y hd mo ti l more,rdr d (a+varU d a) 0,.seq .cell L])
def msp_upto:=mspR (u13 q_upto)
def esp_upto:=espR (u13 q_upto)
theorem jqI:InP (u13 q_upto):=injM
theorem jdn:W13 (hP msp_upto esp_upto) q_upto:=w13 (aP rfl rfl jqI)
theorem jkn:Mp 182 msp_upto esp_upto:=ofP (u13 q_upto) jqI fun⟨k,r,L,x,y,hd,mo,ti,l,more,d,a,most⟩ hG=>tfi (.m jaG jgP (.p jaK jpw .nil)) 3 jaL (by
 dsimp only[u13,q_upto]at hG ⊢
 have zc:=Hk.mk (qaa @jbV @jgQ)
 obtain⟨⟨h1,h2,h3⟩,h4,h5⟩:=hG
 have hv:=jae h3 a
 rcases joc d a most with⟨hE,hq,he⟩|⟨hE,hq,he⟩|⟨hE,he⟩
 ·rw[jaR he,jaS he]
  have hw:=qaa hE (qaa (jfD (n:=most) (by omega) (by omega)) (jf7 (n:=varV d a) (by omega)))
  repeat' first|exact h3 _ ‹_›|refine tU ?_|refine qab [0,1,2] [] rfl ?_|refine qaa ?_ ?_|(refine tI ?_;intro hyp)|intro hyp0|exact tZ|omega
 ·rw[jaf (by omega),jag (by omega),he]
  have hw:=hE
  repeat' first|exact h3 _ ‹_›|refine tU ?_|refine qac (qab [0,1,2] [] rfl ?_)|refine qaa ?_ ?_|(refine tI ?_;intro hyp)|intro hyp0|exact tZ|omega
  rw[jfD (by omega) (by omega)]at hyp
  omega
 ·rw[jaf (by omega),jag (by omega),he]
  repeat' first|exact h3 _ ‹_›|refine tU ?_|refine qac (qab [0,1,2] [] rfl ?_)|refine qaa ?_ ?_|(refine tI ?_;intro hyp)|intro hyp0|exact tZ|omega)
theorem jko (d:List Int) (a:Nat):(varE d a=0∧¬varV d a=0∧jc2 d a=0)∨(varE d a=0∧varV d a=0∧jc2 d a=3)∨(¬varE d a=0∧jc2 d a=varE d a):=by
 unfold jc2
 by_cases h:varE d a=0
 ·by_cases q:varV d a=0
  ·exact .inr (.inl ⟨h,q,by rw[if_neg (by simp[h]),if_pos q]⟩)
  ·exact .inl ⟨h,q,by rw[if_neg (by simp[h]),if_neg q]⟩
 ·exact .inr (.inr ⟨h,if_pos h⟩)
abbrev q_some (k r:Int) (L:List CD) (x y:Int) (hd:Bool) (mo:Int) (ti:ByteArray) (l more:List ByteArray) (d:List Int) (a:Nat):QP:=(([.ptr 0 0 0],[RB 2 k r L.length x y hd mo ti l more,rdr d a 0,.seq .cell L]),jc2 d a,RdOk d a,.ret (.int .u64 (varV d a)),[RB 2 k r L.length x y hd mo ti l more,rdr d (a+varU d a) 0,.seq .cell L])
def msp_some:=mspR (u12 q_some)
def esp_some:=espR (u12 q_some)
theorem jqJ:InP (u12 q_some):=injM
theorem jkp:W12 (hP msp_some esp_some) q_some:=w12 (aP rfl rfl jqJ)
theorem juR:Mp 200 msp_some esp_some:=ofP (u12 q_some) jqJ fun⟨k,r,L,x,y,hd,mo,ti,l,more,d,a⟩ hG=>tfi (.m jaG jgP (.p jaK jpw .nil)) 3 jbN (by
 dsimp only[u12,q_some]at hG ⊢
 have zc:=Hk.mk (qaa @jbV @jgQ)
 obtain⟨h1,h2,h3⟩:=hG
 have hv:=jae h3 a
 rcases jko d a with⟨hE,hq,he⟩|⟨hE,hq,he⟩|⟨hE,he⟩
 ·rw[jaR he,jaS he]
  have hw:=hE
  repeat' first|exact h3 _ ‹_›|refine tU ?_|refine qab [0,1,2] [] rfl ?_|refine qaa ?_ ?_|(refine tI ?_;intro hyp)|intro hyp0|exact tZ|omega
 ·rw[jaf (by omega),jag (by omega),he]
  have hw:=hE
  repeat' first|exact h3 _ ‹_›|refine tU ?_|refine qac (qab [0,1,2] [] rfl ?_)|refine qaa ?_ ?_|(refine tI ?_;intro hyp)|intro hyp0|exact tZ|omega
 ·rw[jaf (by omega),jag (by omega),he]
  repeat' first|exact h3 _ ‹_›|refine tU ?_|refine qac (qab [0,1,2] [] rfl ?_)|refine qaa ?_ ?_|(refine tI ?_;intro hyp)|intro hyp0|exact tZ|omega)
theorem jf0 (d:List Int) (a:Nat):(upE d a 4294967295=0∧jcQ (varV d a)=true∧colE d a=0)∨(upE d a 4294967295=0∧jcQ (varV d a)=false∧colE d a=3)∨(¬upE d a 4294967295=0∧colE d a=upE d a 4294967295):=by
 unfold colE
 by_cases h:upE d a 4294967295=0
 ·cases q:jcQ (varV d a)
  ·exact .inr (.inl ⟨h,rfl,by rw[if_neg (by simp[h])];rfl⟩)
  ·exact .inl ⟨h,rfl,by rw[if_neg (by simp[h])];rfl⟩
 ·exact .inr (.inr ⟨h,if_pos h⟩)
abbrev q_rdcol (k r:Int) (L:List CD) (x y:Int) (hd:Bool) (mo:Int) (ti:ByteArray) (l more:List ByteArray) (d:List Int) (a:Nat):QP:=(([.ptr 0 0 0],[RB 2 k r L.length x y hd mo ti l more,rdr d a 0,.seq .cell L]),colE d a,RdOk d a,.ret (.int .u32 (varV d a)),[RB 2 k r L.length x y hd mo ti l more,rdr d (a+varU d a) 0,.seq .cell L])
def msp_rdcol:=mspR (u12 q_rdcol)
def esp_rdcol:=espR (u12 q_rdcol)
theorem jod:InP (u12 q_rdcol):=injM
theorem joe:W12 (hP msp_rdcol esp_rdcol) q_rdcol:=w12 (aP rfl rfl jod)
theorem jxk:Mp 201 msp_rdcol esp_rdcol:=ofP (u12 q_rdcol) jod fun⟨k,r,L,x,y,hd,mo,ti,l,more,d,a⟩ hG=>tfi (.p jaL jkn (.f [.any] jby ji2 .nil)) 3 jcL (by
 dsimp only[u12,q_rdcol]at hG ⊢
 have zc:=Hk.mk (qaa @jdn @jeO)
 have hr:=hG
 obtain⟨h1,h2,h3⟩:=hG
 have hv:=jae h3 a
 rcases jf0 d a with⟨hE,hq,he⟩|⟨hE,hq,he⟩|⟨hE,he⟩
 ·rw[jaR he,jaS he]
  have hu:=jaQ hE
  have hw:=qaa hE (qaa hq (jru (n:=varV d a) (by omega)))
  repeat' first|exact hr|refine tU ?_|refine qab [0,1,2] [] rfl ?_|refine qaa ?_ ?_|(refine tI ?_;intro hyp)|intro hyp0|exact tZ|omega
 ·rw[jaf (by omega),jag (by omega),he]
  have hu:=jaQ hE
  have hw:=qaa hE (qaa hq (jru (n:=varV d a) (by omega)))
  repeat' first|exact hr|refine tU ?_|refine qac (qab [0,1,2] [] rfl ?_)|refine qaa ?_ ?_|(refine tI ?_;intro hyp)|intro hyp0|exact tZ|omega
 ·rw[jaf (by omega),jag (by omega),he]
  repeat' first|exact hr|refine tU ?_|refine qac (qab [0,1,2] [] rfl ?_)|refine qaa ?_ ?_|(refine tI ?_;intro hyp)|intro hyp0|exact tZ|omega)
end
section
open Go.RowKit
set_option maxRecDepth 100000
set_option maxHeartbeats 4000000
theorem juS (f:CD→CD){L:List CD}{i:Nat}(h:i<L.length):(half f L i).getD i default=L.getD i default:=by
 rw[List.getD_eq_getElem?_getD,jqk f (jcd h)]
 rfl
theorem juT {f:CD→CD}{L:List CD}{i:Nat}(h:i<L.length) (e:f (L.getD i default)=L.getD i default):half f L (i+1)=half f L i:=by
 rw[←jql f (jcd h),e]
 have hl:i<(half f L i).length:=by rw[jqj];exact h
 have:=jqk f (jcd h)
 rw[List.getElem?_eq_getElem hl]at this
 rw[←Option.some.inj this,List.set_getElem_self]
abbrev jqK:List AK:=[.agg [.any,.any,.sl .cell,.any,.any,.any,.any,.any,.sl .str],.sl .str]
abbrev q_under (k r:Int) (L:List CD) (x y:Int) (hd:Bool) (mo:Int) (ti:ByteArray) (bl links:List ByteArray):QA:=([.agg [.int .i64 k,.int .i64 r,.vec .cell L,.int .i64 x,.int .i64 y,.bool hd,.int .u8 mo,.str ti,.vec .str bl],.vec .str links],L.length≤60000∧bl.length≤60000∧links.length≤60000∧(∀c∈L,CWf c)∧(∀c∈L,c.link≤bl.length),.ret (.vec .cell (L.map (ulf bl links))))
def sp_under:=spQ (u10 q_under)
theorem jkq:W10 (hA sp_under) q_under:=w10 (aA rfl)
theorem jqL:Fre 175 sp_under:=ofT (u10 q_under) fun⟨k,r,L,x,y,hd,mo,ti,bl,links⟩ hG=>tfi (.t [.sl .cell] jau jdM (.f [.sl .str,.any] jba jkd .nil)) 0 jeW (by
 dsimp only[u10,q_under]at hG ⊢
 have zc:=Hk.mk (qaa @jbz @jfx)
 obtain⟨hL,hb,hl,hc,hle⟩:=hG
 repeat' first|refine tU ?_|refine qab [1] [] rfl ?_|refine qaa ?_ ?_|(refine tI ?_;intro hyp)|intro hyp0|exact tZ|omega
 refine T.loop (fun i:Nat=>⟨[(1,.vec .str links),(2,.ptr 0 0 0),(5,.slice 1 0 6 L.length L.length),(12,.int .i64 L.length),(13,.int .i64 i)],[.box [.int .i64 k,.int .i64 r,.vec .cell L,.int .i64 x,.int .i64 y,.bool hd,.int .u8 mo,.str ti,.vec .str bl],.seq .cell (half (ulf bl links) L i)]⟩) (fun i=>i≤L.length) (fun i=>L.length-i) 0 (by omega) (qab [0,1] [] rfl (by simp only[PB,SAM,seval,rdB,Hk.out zc];simp[half])) (fun i hi=>?_)
 have hhl:=jqj (ulf bl links) L i
 by_cases hil:i<L.length
 ·have hlk:=(hc _ (jbp hil)).link
  have hlb:=hle _ (jbp hil)
  have hw:=juS (ulf bl links) hil
  have hst:=jql (ulf bl links) (jcd hil)
  by_cases h0:0<(L.getD i default).link
  ·have hpl:=jcF links (bl.getD ((L.getD i default).link-1).toNat ETy.str.dflt)
   have hu:ulf bl links (L.getD i default)={ L.getD i default with link:=jaq links (bl.getD ((L.getD i default).link-1).toNat ETy.str.dflt)+1 }:=if_pos h0
   rw[hu]at hst
   have hw2:IntKind.u16.wrap ((L.getD i default).link-1)=(L.getD i default).link-1:=joP (by omega)
   have hw3:IntKind.u16.wrap (jaq links (bl.getD ((L.getD i default).link-1).toNat ETy.str.dflt)+1)=jaq links (bl.getD ((L.getD i default).link-1).toNat ETy.str.dflt)+1:=joP (by omega)
   repeat' first|refine tU ?_|refine qaa ?_ ?_|(refine tI ?_;intro hyp)|intro hyp0|exact tZ|omega
   exact⟨i+1,by omega,by omega,qab [0,1] [] rfl (by rw[←hst];exact tF)⟩
  ·have hu:ulf bl links (L.getD i default)=L.getD i default:=if_neg h0
   have hsk:=juT (f:=ulf bl links) hil hu
   repeat' first|refine tU ?_|refine qaa ?_ ?_|(refine tI ?_;intro hyp)|intro hyp0|exact tZ|omega
   exact⟨i+1,by omega,by omega,qab [0,1] [] rfl (by rw[hsk];exact tF)⟩
 ·have e:half (ulf bl links) L i=L.map (ulf bl links):=jwR _ _ _ (by omega)
  rw[e]
  have hlm:(L.map (ulf bl links)).length=L.length:=by simp
  repeat' first|refine tU ?_|refine qab [1] [] rfl ?_|refine qaa ?_ ?_|(refine tI ?_;intro hyp)|intro hyp0|exact tZ|omega)
end
section
open Go.RowKit
set_option maxRecDepth 100000
set_option maxHeartbeats 4000000
abbrev jsv:List AK:=[.agg [.any,.any,.sl .cell,.any,.any,.any,.any,.any,.sl .str],.agg [.any,.any,.sl .cell,.any,.any,.any,.any,.any,.sl .str],.any]
abbrev q_differs (k r:Int) (L:List CD) (x y:Int) (hd:Bool) (mo:Int) (ti:ByteArray) (l:List ByteArray) (k' r':Int) (L':List CD) (x' y':Int) (hd':Bool) (mo':Int) (ti':ByteArray) (l':List ByteArray) (m:Int):QA:=([.agg [.int .i64 k,.int .i64 r,.vec .cell L,.int .i64 x,.int .i64 y,.bool hd,.int .u8 mo,.str ti,.vec .str l],.agg [.int .i64 k',.int .i64 r',.vec .cell L',.int .i64 x',.int .i64 y',.bool hd',.int .u8 mo',.str ti',.vec .str l'],.int .i64 m],L.length≤60000∧L'.length≤60000∧(-10000≤m*k∧m*k≤10000),.ret (.int .i64 (cntF (fun i=>jfd L (i+m*k)) (cAt L') L'.length)))
def sp_differs:=spQ (u19 q_differs)
theorem jm6:W19 (hA sp_differs) q_differs:=w19 (aA rfl)
theorem jsw:Al 195 sp_differs:=ofA (u19 q_differs) fun⟨k,r,L,x,y,hd,mo,ti,l,k',r',L',x',y',hd',mo',ti',l',m⟩ hG=>tfi (.f [.any] jdJ jjV .nil) 0 jfy (by
 dsimp only[u19,q_differs]at hG ⊢
 have zc:=Hk.mk (@jfp)
 obtain⟨hL,hL',hm⟩:=hG
 repeat' first|refine tU ?_|refine qab [] [] rfl ?_|refine qaa ?_ ?_|(refine tI ?_;intro hyp)|intro hyp0|exact tZ|omega
 refine T.loop (fun i:Nat=>⟨[(3,.ptr 0 0 0),(7,.int .i64 (cntF (fun i=>jfd L (i+m*k)) (cAt L') i)),(8,.int .i64 (m*k)),(17,.vec .cell L'),(18,.int .i64 L'.length),(19,.int .i64 i)],[.box [.int .i64 k,.int .i64 r,.vec .cell L,.int .i64 x,.int .i64 y,.bool hd,.int .u8 mo,.str ti,.vec .str l]]⟩) (fun i=>i≤L'.length) (fun i=>L'.length-i) 0 (by omega) (qab [0] [] rfl (by simp only[PB,SAM,seval,rdB,Hk.out zc];simp[cntF])) (fun i hi=>?_)
 have hct:=jtT (fun i=>jfd L (i+m*k)) (cAt L') i
 have hcs:=jtS (fun i=>jfd L (i+m*k)) (cAt L') i
 by_cases hil:i<L'.length
 ·rw[jce hil]at hcs
  by_cases hin:0≤(i:Int)+m*k∧(i:Int)+m*k<L.length
  ·have e:jfd L ((i:Int)+m*k)=L.getD ((i:Int)+m*k).toNat default:=by
    unfold jfd
    rw[if_pos hin,jce (by omega)]
   rw[e]at hcs
   unfold jfS at hcs
   repeat' first|refine tU ?_|refine qaa ?_ ?_|(refine tI ?_;intro hyp)|intro hyp0|exact tZ|omega
   ·refine⟨i+1,by omega,by omega,qab [0] [] rfl ?_⟩
    rw[hcs,if_neg (fun q=>hyp (of_decide_eq_true q))]
    exact tF
   ·refine⟨i+1,by omega,by omega,qab [0] [] rfl ?_⟩
    rw[hcs,if_pos (decide_eq_true hyp)]
    exact tF
  ·have e:jfd L ((i:Int)+m*k)=blank0:=if_neg hin
   rw[e]at hcs
   unfold jfS at hcs
   have hw3:jdL { fg:=0,bg:=0,attrs:=0,link:=0 }=blank0:=rfl
   repeat' first|refine tU ?_|refine qaa ?_ ?_|(refine tI ?_;intro hyp)|intro hyp0|exact tZ|omega
   ·refine⟨i+1,by omega,by omega,qab [0] [] rfl ?_⟩
    rw[hcs,if_neg (fun q=>hyp (of_decide_eq_true q))]
    exact tF
   ·refine⟨i+1,by omega,by omega,qab [0] [] rfl ?_⟩
    rw[hcs,if_pos (decide_eq_true hyp)]
    exact tF
 ·obtain rfl:i=L'.length:=by omega
  repeat' first|refine tU ?_|refine qab [] [] rfl ?_|refine qaa ?_ ?_|(refine tI ?_;intro hyp)|intro hyp0|exact tZ|omega)
theorem jsx:Fre 195 sp_differs:=ofF (u19 q_differs) jsw fun _=>rfl
theorem jxI {m k:Int}(h1:-100≤m∧m≤100) (h2:0≤k∧k≤100):-10000≤m*k∧m*k≤10000:=by
 have a1:m*k≤100*k:=Int.mul_le_mul_of_nonneg_right h1.2 h2.1
 have a2:-100*k≤m*k:=Int.mul_le_mul_of_nonneg_right h1.1 h2.1
 omega
abbrev jAd:List AK:=[.agg [.any,.any,.sl .cell,.any,.any,.any,.any,.any,.sl .str],.agg [.any,.any,.sl .cell,.any,.any,.any,.any,.any,.sl .str]]
abbrev q_best (k r:Int) (L:List CD) (x y:Int) (hd:Bool) (mo:Int) (ti:ByteArray) (l:List ByteArray) (k' r':Int) (L':List CD) (x' y':Int) (hd':Bool) (mo':Int) (ti':ByteArray) (l':List ByteArray):QA:=([.agg [.int .i64 k,.int .i64 r,.vec .cell L,.int .i64 x,.int .i64 y,.bool hd,.int .u8 mo,.str ti,.vec .str l],.agg [.int .i64 k',.int .i64 r',.vec .cell L',.int .i64 x',.int .i64 y',.bool hd',.int .u8 mo',.str ti',.vec .str l']],L.length≤60000∧L'.length≤60000∧(0≤k∧k≤100)∧(1≤r∧r≤100),.ret (.int .i64 (jdZ (fun m=>cntF (fun i=>jfd L (i+m*k)) (cAt L') L'.length) (r.toNat-1)).1))
def sp_best:=spQ (u18 q_best)
theorem jsy:W18 (hA sp_best) q_best:=w18 (aA rfl)
theorem jAe:Al 176 sp_best:=ofA (u18 q_best) fun⟨k,r,L,x,y,hd,mo,ti,l,k',r',L',x',y',hd',mo',ti',l'⟩ hG=>tfi (.f jsv jfy jsx .nil) 0 jiE (by
 dsimp only[u18,q_best]at hG ⊢
 have zc:=Hk.mk (@jm6)
 obtain⟨hL,hL',hk,hr⟩:=hG
 obtain⟨d,hD⟩:∃d:Int→Nat,d=fun m=>cntF (fun i=>jfd L (i+m*k)) (cAt L') L'.length:=⟨_,rfl⟩
 have hw:∀m:Int,cntF (fun i=>jfd L (i+m*k)) (cAt L') L'.length=d m:=fun m=>by rw[hD]
 have hdl:∀m,d m≤L'.length:=fun m=>by rw[hD];exact jtT _ _ _
 have hmk:∀m:Int,-100≤m∧m≤100 → -10000≤m*k∧m*k≤10000:=fun m h=>jxI h hk
 have h00:=hmk 0 (by omega)
 repeat' first|refine tU ?_|refine qab [] [] rfl ?_|refine qaa ?_ ?_|(refine tI ?_;intro hyp)|intro hyp0|exact tZ|omega
 refine T.loop (fun n:Nat=>⟨[(2,.ptr 0 0 0),(3,.ptr 1 0 0),(5,.int .i64 (jdZ d (n-1)).1),(6,.int .i64 (jdZ d (n-1)).2),(7,.int .i64 n)],[.box [.int .i64 k,.int .i64 r,.vec .cell L,.int .i64 x,.int .i64 y,.bool hd,.int .u8 mo,.str ti,.vec .str l],.box [.int .i64 k',.int .i64 r',.vec .cell L',.int .i64 x',.int .i64 y',.bool hd',.int .u8 mo',.str ti',.vec .str l']]⟩) (fun n=>1≤n∧n≤r.toNat) (fun n=>r.toNat-n) 1 (by omega) (qab [0,1] [] rfl (by simp only[PB,SAM,seval,rdB,Hk.out zc];simp[jdZ])) (fun n hn=>?_)
 have hbl:∀j,(jdZ d j).2≤L'.length∧(-(j:Int)≤(jdZ d j).1∧(jdZ d j).1≤j):=fun j=>⟨by
  induction j with
  | zero=>exact hdl 0
  | succ j ih =>
   simp only[jdZ,jek]
   have:=hdl ((j+1:Nat):Int)
   have:=hdl (-((j+1:Nat):Int))
   split<;>(try split)<;>(try simp only)<;>omega,jmC d j⟩
 have hb1:=hbl (n-1)
 by_cases hnr:n<r.toNat
 ·repeat' first|refine tU ?_|refine qaa ?_ ?_|(refine tI ?_;intro hyp)|intro hyp0|exact tZ|omega
  obtain⟨st,hst⟩:∃st,st=jdZ d (n-1):=⟨_,rfl⟩
  rw[←hst]
  refine T.loop (fun j:Nat=>⟨[(2,.ptr 0 0 0),(3,.ptr 1 0 0),(5,.int .i64 (innB d st n j).1),(6,.int .i64 (innB d st n j).2),(7,.int .i64 n),(23,.slice 2 0 1 2 2),(24,.int .i64 2),(25,.int .i64 j)],[.box [.int .i64 k,.int .i64 r,.vec .cell L,.int .i64 x,.int .i64 y,.bool hd,.int .u8 mo,.str ti,.vec .str l],.box [.int .i64 k',.int .i64 r',.vec .cell L',.int .i64 x',.int .i64 y',.bool hd',.int .u8 mo',.str ti',.vec .str l'],.seq (.int .i64) [n,-n]]⟩) (fun j=>j≤2) (fun j=>2-j) 0 (by omega) (qab [0,1,2] [] rfl (by simp only[PB,SAM,seval,rdB,Hk.out zc];simp[innB])) (fun j hj=>?_)
  rw[←hst]at hb1
  have hdn:=hdl n
  have hdm:=hdl (-n)
  rcases (show j=0∨j=1∨j=2 by omega)with rfl|rfl|rfl
  ·have e0:innB d st n 0=st:=rfl
   have e1:innB d st n 1=jek d st n:=rfl
   rw[e0]
   repeat' first|exact hmk _ (by omega)|refine tU ?_|refine qaa ?_ ?_|(refine tI ?_;intro hyp)|intro hyp0|exact tZ|omega
   ·exact⟨1,by omega,by omega,qab [0,1,2] [] rfl (by rw[e1,(jeP d st n).1 (by omega)];exact tF)⟩
   ·exact⟨1,by omega,by omega,qab [0,1,2] [] rfl (by rw[e1,(jeP d st n).2 (by omega)];exact tF)⟩
  ·have e1:innB d st n 1=jek d st n:=rfl
   have e2:innB d st n 2=jek d (jek d st n) (-n):=rfl
   obtain⟨su,hsu⟩:∃su,su=jek d st n:=⟨_,rfl⟩
   have hs2:su.2≤L'.length:=by
    rw[hsu]
    unfold jek
    split<;>(try simp only)<;>omega
   rw[e1,←hsu]
   rw[←hsu]at e2
   repeat' first|exact hmk _ (by omega)|refine tU ?_|refine qaa ?_ ?_|(refine tI ?_;intro hyp)|intro hyp0|exact tZ|omega
   ·exact⟨2,by omega,by omega,qab [0,1,2] [] rfl (by rw[e2,(jeP d su (-n)).1 (by omega)];exact tF)⟩
   ·exact⟨2,by omega,by omega,qab [0,1,2] [] rfl (by rw[e2,(jeP d su (-n)).2 (by omega)];exact tF)⟩
  ·have e2:innB d st n 2=jdZ d n:=by
    obtain⟨z,rfl⟩:∃z,n=z+1:=⟨n-1,by omega⟩
    rw[hst]
    rfl
   rw[e2]
   repeat' first|refine tU ?_|refine qaa ?_ ?_|(refine tI ?_;intro hyp)|intro hyp0|exact tZ|omega
   exact⟨n+1,by omega,by omega,qab [0,1] [] rfl (by rw[Nat.add_sub_cancel];exact tF)⟩
 ·obtain rfl:n=r.toNat:=by omega
  repeat' first|refine tU ?_|refine qab [] [] rfl ?_|refine qaa ?_ ?_|(refine tI ?_;intro hyp)|intro hyp0|exact tZ|omega)
theorem jAf:Fre 176 sp_best:=ofF (u18 q_best) jAe fun _=>rfl
end
end
end Go.Proofs.YtienkkicehmchaaGreatDoor
